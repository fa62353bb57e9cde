import Derived.Test.YtgoifbjgmgbihaaGreatT02
import Derived.Test.YtgoifbjgmgbihaaGreatVid
set_option linter.unusedSimpArgs false
set_option linter.unusedVariables false
set_option maxRecDepth 20000
set_option maxHeartbeats 16000000
namespace Go.Proofs.YtgoifbjgmgbihaaGreat
open Go.Vi
abbrev Txt:=List UInt8
def bl (a b:Txt):Bool:=Op.bytesLess a b
theorem KQ (a:Txt):bl a []=false:=by cases a <;> rfl
theorem tL (a b:UInt8) (x y:Txt):bl (a::x) (b::y)=(decide (a<b) || (a == b && bl x y)):=rfl
theorem ml:∀ a:Txt,bl a a=false
 | []=>rfl
 | a::x=>by rw[tL,ml x];simp
theorem yr:∀ a b:Txt,bl a b=true∨a=b∨bl b a=true
 | [],[]=>.inr (.inl rfl)
 | [],_::_=>.inl rfl
 | _::_,[]=>.inr (.inr rfl)
 | a::x,b::y=>by
  rw[tL,tL];by_cases h:a=b
  ·subst h;rcases yr x y with h|h|h
   ·left;simp[h]
   ·right;left;rw[h]
   ·right;right;simp[h]
  ·rcases Nat.lt_or_ge a.toNat b.toNat with h2|h2
   ·left;have:a<b:=h2;simp[this]
   ·right;right
    have:b<a:=by
     show b.toNat<a.toNat;have:a.toNat≠b.toNat:=fun e=>h (UInt8.toNat_inj.1 e)
     omega
    simp[this]
theorem uk:∀ {a b c:Txt},bl a b=true->bl b c=true->bl a c=true
 | _,[],_,h,_=>by rw[KQ] at h;cases h
 | _,_::_,[],_,h=>by rw[KQ] at h;cases h
 | [],_::_,_::_,_,_=>rfl
 | a::x,b::y,c::z,h1,h2=>by
  rw[tL] at *;simp only[Bool.or_eq_true,Bool.and_eq_true,decide_eq_true_eq,beq_iff_eq] at *;rcases h1 with h1|⟨rfl,h1⟩
  ·rcases h2 with h2|⟨rfl,h2⟩
   ·left;exact UInt8.lt_trans h1 h2
   ·left;exact h1
  ·rcases h2 with h2|⟨rfl,h2⟩
   ·left;exact h2
   ·right;exact⟨rfl,uk h1 h2⟩
theorem Nv {a b:Txt} (h:bl a b=true):bl b a=false:=by
 cases h2:bl b a with
 | false=>rfl
 | true=>have:=uk h h2;rw[ml] at this;cases this
theorem Bi {a b:Txt} (h:bl a b=true):a≠b:=fun e=>by rw[e,ml] at h;cases h
structure Fil where
 name:List UInt8
 data:List UInt8
 sure:Int
 deriving DecidableEq
def Fil.enc (e:Fil):List D:=[.s e.name,.s e.data,.i .i64 e.sure]
theorem Fil.len (e:Fil):e.enc.length=3:=Eq.trans rfl rfl
theorem Fil.tk (e:Fil):e.enc.take 3=e.enc:=Eq.trans rfl rfl
theorem Fil.tkL (e:Fil):(e.enc.map L.d).take 3=e.enc.map L.d:=Eq.trans rfl rfl
theorem Fil.lenL (e:Fil):(e.enc.map L.d).length=3:=Eq.trans rfl rfl
theorem Fil.at0 (e:Fil):e.enc[0]?=some (.s e.name):=Eq.trans rfl rfl
theorem Fil.at1 (e:Fil):(e.enc.drop 1)[0]?=some (.s e.data):=Eq.trans rfl rfl
theorem Fil.fd1 (e:Fil):(e.enc.map L.d)[1]?=some (zS e.data):=Eq.trans rfl rfl
theorem Fil.up1 (e:Fil) (x:List UInt8):e.enc.take 1++[.s x]++e.enc.drop 2=({ e with data:=x }:Fil).enc:=Eq.trans rfl rfl
theorem Fil.up2 (e:Fil) (x:Int):e.enc.take 2++[.i .i64 x]++e.enc.drop 3=({ e with sure:=x }:Fil).enc:=Eq.trans rfl rfl
def Fil.ok (e:Fil):Prop:=e.name.length<=9223372036854775807∧e.data.length<=9223372036854775807∧(-9223372036854775808<=e.sure∧e.sure<9223372036854775808)
def Fil.ty:List Ty:=[.s,.s,.i .i64]
structure Dsk where
 files:List Fil
 cap:Int
 armed:Bool
 left:Int
 down:Bool
def Dsk.l (d:Dsk):List L:=[.d (.l (d.files.map Fil.enc)),zI d.cap,zB d.armed,zI d.left,zB d.down]
def dU (s:Txt):Bool:=decide (s≠[]) && decide (s.length<=32)
theorem vh (s:Txt):call 150 [vs s] []=some (vb (dU s),[]):=by
 apply ae TE rfl;by_cases h:s=[]
 ·subst h;have e:(([]:Txt) == [])=true:=rfl;refine bd ?_ Lp.eq_1 e;try rfl
 ·have e:(s == [])=false:=by rw[beq_eq_false_iff_ne];exact h
  by_cases h2:s.length<=32
  ·refine bd ?_ Lp.eq_1 e h2;simp[dU,h,h2]
  ·refine bd ?_ Lp.eq_1 e h2;simp[dU,h,h2]
def srt (l:List Fil):Prop:=l.Pairwise fun a b=>bl a.name b.name=true
def au (l:List Fil) (n:Txt):Nat:=l.countP fun f=>bl f.name n
def bS (l:List Fil) (n:Txt):Bool:=match l[au l n]? with|some f=>decide (f.name=n)|none=>false
theorem pC {α:Type} (p:α->Bool):∀ (l:List α),l.Pairwise (fun a b=>p b=true->p a=true)->∀ i (h:i<l.length),(p l[i]=true↔i<l.countP p)
 | [],_,i,h=>by simp at h
 | a::l,hp,i,h=>by
  rw[List.pairwise_cons] at hp;cases i with
  | zero =>
   rw[List.getElem_cons_zero,List.countP_cons];constructor
   ·intro h2;simp[h2]
   ·intro h2;by_cases hc:p a=true
    ·exact hc
    ·simp only[hc,Bool.false_eq_true,↓reduceIte,Nat.add_zero] at h2;rw[List.countP_pos_iff] at h2;obtain⟨b,hb,hpb⟩:=h2;exact hp.1 b hb hpb
  | succ i =>
   simp only[List.length_cons,Nat.add_lt_add_iff_right] at h;rw[List.getElem_cons_succ,pC p l hp.2 i h,List.countP_cons];by_cases hc:p a=true
   ·simp[hc]
   ·simp only[hc,Bool.false_eq_true,↓reduceIte,Nat.add_zero];constructor
    ·intro h2;exfalso;have:0<l.countP p:=by omega
     rw[List.countP_pos_iff] at this;obtain⟨b,hb,hpb⟩:=this;exact hc (hp.1 b hb hpb)
    ·intro h2;exfalso;have:0<l.countP p:=by omega
     rw[List.countP_pos_iff] at this;obtain⟨b,hb,hpb⟩:=this;exact hc (hp.1 b hb hpb)
theorem jq {l:List Fil} (hs:srt l) (n:Txt) (i:Nat) (h:i<l.length):bl l[i].name n=true↔i<au l n :=
 pC (fun f=>bl f.name n) l (hs.imp fun hab hb=>uk hab hb) i h
theorem pm (l:List Fil) (n:Txt):au l n<=l.length:=List.countP_le_length
def pq (a b:Txt):Int:=if bl a b=true then -1 else if bl b a=true then 1 else 0
theorem Ib (f:Fil) (n:Txt):call 186 [.agg (f.enc.map .d),vs n] []=some (vi (pq f.name n),[]):=by
 apply ae U1 rfl;unfold pq bl;cases h:Op.bytesLess f.name n with
 | true =>
  (simp(disch:=first|decide|omega|(intros;exact aP rfl rfl)|simp only[am]) only[L8,Fil.enc,List.map_cons,List.map_nil,h,go_sem,seval,aO])
  try simp
 | false =>
  rcases yr f.name n with h1|h1|h1
  ·unfold bl at h1;rw[h] at h1;cases h1
  ·have e:(f.name == n)=true:=by rw[h1];exact beq_self_eq_true _
   have h2:Op.bytesLess n f.name=false:=by rw[h1];exact ml n
   (simp(disch:=first|decide|omega|(intros;exact aP rfl rfl)|simp only[am]) only[L8,Fil.enc,List.map_cons,List.map_nil,h,e,go_sem,seval,aO])
   try simp[h2]
  ·have e:(f.name == n)=false:=by rw[beq_eq_false_iff_ne];exact fun e=>Bi h1 e.symm
   have h2:Op.bytesLess n f.name=true:=h1;(simp(disch:=first|decide|omega|(intros;exact aP rfl rfl)|simp only[am]) only[L8,Fil.enc,List.map_cons,List.map_nil,h,e,go_sem,seval,aO])
   try simp[h2]
theorem RY (f:Fil) (n:Txt) (H:Hp):ak call 186 [.agg (f.enc.map .d),vs n] H=some (vi (pq f.name n),H):=callIso_pure rfl (Ib f n) rfl
theorem tX (a b:Txt):pq a b<0↔bl a b=true:=by unfold pq;split <;> simp_all;split <;> omega
theorem qr {a b:Txt}:pq a b=0↔a=b:=by
 unfold pq;rcases yr a b with h|h|h
 ·simp[h,Bi h]
 ·subst h;simp[ml]
 ·simp[h,Nv h];exact fun e=>Bi h e.symm
def dj (l:List Fil) (n:Txt):V:=.tup [(false,[zI (au l n:Nat)]),(false,[zB (bS l n)])]
theorem MP (lo hi:Nat):Int.fdiv ((lo:Int)+(hi:Int)) 2=(((lo+hi) / 2:Nat):Int):=by
 rw[Int.fdiv_eq_ediv_of_nonneg _ (by decide)];omega
theorem zy (n:Int):dy .shr (.i .u64 n) (.i .u64 1)=some (.i .u64 (n.fdiv 2)):=rfl
theorem za (l:List Fil) (hl:l.length<=1000000) (hs:srt l) (n:Txt):call 185 [vl (l.map Fil.enc),vs n,.one (.f 186 [])] []=some (dj l n,[]):=by
 apply ae R9 rfl;have hc:=fun(f:Fil)=>RY f n
 obtain⟨Z,hZ⟩:∃ Z:V × Hp,Z=(dj l n,[]):=⟨_,rfl⟩;rw[<- hZ];refine bd ?_ O2.eq_1;refine aq (m:=0) (σ:=Nat × Nat) (fun t=>t.2-t.1) (fun t=>t.1<=au l n∧au l n<=t.2∧t.2<=l.length) (fun t=>[vl (l.map Fil.enc),vs n,.one (.f 186 []),vi l.length,vi t.1,vi t.2]) (fun t=>[])
  (fun t=>Z) ?_ (0,l.length) ⟨zP _,pm l n,Nat.le_refl _⟩ _ _ bA
 rintro⟨lo,hi⟩ ⟨h1,h2,h3⟩ R hR;simp only at h1 h2 h3 ⊢;by_cases c:lo<hi
 ·have hm:=MP lo hi;have hmid:(lo+hi) / 2<l.length:=by omega
  have hp:=jq hs n _ hmid;obtain⟨mid,hmd⟩:∃ mid,mid=(lo+hi) / 2:=⟨_,rfl⟩;simp only[<- hmd] at hm hmid hp;have g1:(l.map Fil.enc)[mid]?=some l[mid].enc:=by simp[hmid]
  by_cases c2:bl l[mid].name n=true
  ·have:=hp.1 c2;have hcn:pq l[mid].name n<0:=(tX _ _).2 c2;(simp(disch:=first|decide|omega|(intros;exact aP rfl rfl)|simp only[am]) only[kf,↓zy,hm,g1,Fil.len,Fil.tkL,Fil.tk,↓hc,hcn,go_sem,seval,aO])
   exact hR (mid+1,hi) (by simp only[];omega) ⟨by simp only[];omega,h2,h3⟩ _ _ bA
  ·have:¬ mid<au l n:=fun h=>c2 (hp.2 h)
   have hcn:¬ pq l[mid].name n<0:=fun h=>c2 ((tX _ _).1 h)
   (simp(disch:=first|decide|omega|(intros;exact aP rfl rfl)|simp only[am]) only[kf,↓zy,hm,g1,Fil.len,Fil.tkL,Fil.tk,↓hc,hcn,go_sem,seval,aO])
   exact hR (lo,mid) (by simp only[];omega) ⟨h1,by simp only[];omega,by simp only[];omega⟩ _ _ bA
 ·have hlo:lo=au l n:=by omega
  subst hlo;by_cases c0:au l n<l.length
  ·have g1:(l.map Fil.enc)[au l n]?=some l[au l n].enc:=by simp[c0]
   have hhas:bS l n=decide (l[au l n].name=n):=by unfold bS;rw[zE c0]
   by_cases c3:l[au l n].name=n
   ·have hcz:pq l[au l n].name n=0:=qr.2 c3;(simp(disch:=first|decide|omega|(intros;exact aP rfl rfl)|simp only[am]) only[kf,c,c0,g1,Fil.len,Fil.tkL,Fil.tk,↓hc,hcz,go_sem,seval,aO])
    rw[hZ];simp[dj,hhas,c3]
   ·have hcz:¬ pq l[au l n].name n=0:=fun h=>c3 (qr.1 h)
    (simp(disch:=first|decide|omega|(intros;exact aP rfl rfl)|simp only[am]) only[kf,c,c0,g1,Fil.len,Fil.tkL,Fil.tk,↓hc,hcz,go_sem,seval,aO])
    rw[hZ];simp[dj,hhas,c3]
  ·have hhas:bS l n=false:=by unfold bS;rw[List.getElem?_eq_none (by omega)]
   refine bd ?_ kf.eq_1 c c0;rw[hZ];simp[dj,hhas]
theorem BP (l:List Fil) (hl:l.length<=1000000) (hs:srt l) (n:Txt):call 185 [.one (.sl 0 3 0 l.length),vs n,.one (.f 186 [])] [.arr 3 (l.map Fil.enc) 0]=some (dj l n,[.arr 3 (l.map Fil.enc) 0]):=by
 apply ae R9 rfl;have hc:=fun(f:Fil)=>RY f n
 obtain⟨Z,hZ⟩:∃ Z:V × Hp,Z=(dj l n,[.arr 3 (l.map Fil.enc) 0]):=⟨_,rfl⟩;rw[<- hZ];refine bd ?_ O2.eq_1;refine aq (m:=1) (σ:=Nat × Nat) (fun t=>t.2-t.1) (fun t=>t.1<=au l n∧au l n<=t.2∧t.2<=l.length) (fun t=>[V.one (.sl 0 3 0 l.length),vs n,.one (.f 186 []),vi l.length,vi t.1,vi t.2]) (fun t=>[.arr 3 (l.map Fil.enc) 0])
  (fun t=>Z) ?_ (0,l.length) ⟨zP _,pm l n,Nat.le_refl _⟩ _ _ bA
 rintro⟨lo,hi⟩ ⟨h1,h2,h3⟩ R hR;simp only at h1 h2 h3 ⊢;by_cases c:lo<hi
 ·have hm:=MP lo hi;have hmid:(lo+hi) / 2<l.length:=by omega
  have hp:=jq hs n _ hmid;obtain⟨mid,hmd⟩:∃ mid,mid=(lo+hi) / 2:=⟨_,rfl⟩;simp only[<- hmd] at hm hmid hp;have g1:(l.map Fil.enc)[mid]?=some l[mid].enc:=by simp[hmid]
  by_cases c2:bl l[mid].name n=true
  ·have:=hp.1 c2;have hcn:pq l[mid].name n<0:=(tX _ _).2 c2;(simp(disch:=first|decide|omega|(intros;exact aP rfl rfl)|simp only[am]) only[kf,↓zy,hm,g1,Fil.len,Fil.tkL,Fil.tk,↓hc,hcn,go_sem,seval,aO])
   exact hR (mid+1,hi) (by simp only[];omega) ⟨by simp only[];omega,h2,h3⟩ _ _ bA
  ·have:¬ mid<au l n:=fun h=>c2 (hp.2 h)
   have hcn:¬ pq l[mid].name n<0:=fun h=>c2 ((tX _ _).1 h)
   (simp(disch:=first|decide|omega|(intros;exact aP rfl rfl)|simp only[am]) only[kf,↓zy,hm,g1,Fil.len,Fil.tkL,Fil.tk,↓hc,hcn,go_sem,seval,aO])
   exact hR (lo,mid) (by simp only[];omega) ⟨h1,by simp only[];omega,by simp only[];omega⟩ _ _ bA
 ·have hlo:lo=au l n:=by omega
  subst hlo;by_cases c0:au l n<l.length
  ·have g1:(l.map Fil.enc)[au l n]?=some l[au l n].enc:=by simp[c0]
   have hhas:bS l n=decide (l[au l n].name=n):=by unfold bS;rw[zE c0]
   by_cases c3:l[au l n].name=n
   ·have hcz:pq l[au l n].name n=0:=qr.2 c3;(simp(disch:=first|decide|omega|(intros;exact aP rfl rfl)|simp only[am]) only[kf,c,c0,g1,Fil.len,Fil.tkL,Fil.tk,↓hc,hcz,go_sem,seval,aO])
    rw[hZ];simp[dj,hhas,c3,trim,V.refs,L.refs,Box.refs]
   ·have hcz:¬ pq l[au l n].name n=0:=fun h=>c3 (qr.1 h)
    (simp(disch:=first|decide|omega|(intros;exact aP rfl rfl)|simp only[am]) only[kf,c,c0,g1,Fil.len,Fil.tkL,Fil.tk,↓hc,hcz,go_sem,seval,aO])
    rw[hZ];simp[dj,hhas,c3,trim,V.refs,L.refs,Box.refs]
  ·have hhas:bS l n=false:=by unfold bS;rw[List.getElem?_eq_none (by omega)]
   refine bd ?_ kf.eq_1 c c0;rw[hZ];simp[dj,hhas,trim,V.refs,L.refs,Box.refs]
theorem He (l:List Fil) (hl:l.length<=1000000) (hs:srt l) (n:Txt):call 172 [vl (l.map Fil.enc),vs n] []=some (dj l n,[]):=by
 apply ae SI rfl;have h:∀ H,ak call 185 [vl (l.map Fil.enc),vs n,.one (.f 186 [])] H=some (dj l n,H):=fun H=>callIso_pure rfl (za l hl hs n) rfl
 unfold dj at h ⊢;(simp(disch:=first|decide|omega|(intros;exact aP rfl rfl)|simp only[am]) only[Qi,↓h,go_sem,seval,aO])
 try simp[trim]
theorem qi (l:List Fil) (hl:l.length<=1000000) (hs:srt l) (n:Txt):call 172 [.one (.sl 0 3 0 l.length),vs n] [.arr 3 (l.map Fil.enc) 0]=some (dj l n,[.arr 3 (l.map Fil.enc) 0]):=by
 apply ae SI rfl;have h:ak call 185 [.one (.sl 0 3 0 l.length),vs n,.one (.f 186 [])] [.arr 3 (l.map Fil.enc) 0]=some (dj l n,[.arr 3 (l.map Fil.enc) 0]) :=
  aF (ids:=[0]) rfl rfl rfl (BP l hl hs n) rfl
 unfold dj at h ⊢;(simp(disch:=first|decide|omega|(intros;exact aP rfl rfl)|simp only[am]) only[Qi,↓h,go_sem,seval,aO])
 simp[zR]
def az (l:List Fil) (n:Txt):Txt × Int:=match l[au l n]? with|some f=>if f.name=n then(f.data,0) else([],7)|none=>([],7)
theorem sm (d:Dsk) (hl:d.files.length<=1000000) (hs:srt d.files) (n:Txt):call 146 [.agg d.l,vs n] []=some (.tup [(false,[.d (.s (az d.files n).1)]),(false,[.d (.i .i64 (az d.files n).2)])],[]):=by
 apply ae Uu rfl;have h:=He d.files hl hs n;unfold dj bS at h;unfold az;by_cases c:au d.files n<d.files.length
 ·rw[zE c] at h ⊢;have g1:(d.files.map Fil.enc)[au d.files n]?=some d.files[au d.files n].enc:=by simp[c]
  by_cases c2:d.files[au d.files n].name=n
  ·simp only[c2,decide_true] at h;refine bd ?_ Li.eq_1 @Dsk.l.eq_1 h g1 @Fil.len @Fil.tkL @Fil.tk @Fil.at1;simp[c2]
  ·simp only[c2,decide_false] at h;refine bd ?_ Li.eq_1 @Dsk.l.eq_1 h;simp[c2]
 ·rw[List.getElem?_eq_none (by omega)] at h ⊢
  refine bd ?_ Li.eq_1 @Dsk.l.eq_1 h;try simp
def usedF (l:List Fil):Nat:=(l.map fun f=>f.data.length).sum
theorem cW (a b:List Fil):usedF (a++b)=usedF a+usedF b:=by unfold usedF;rw[List.map_append,List.sum_append]
theorem gM (f:Fil):usedF [f]=f.data.length:=by simp[usedF]
theorem n5 (l:List Fil) (i:Nat):usedF (l.take i)<=usedF l:=by
 have:=cW (l.take i) (l.drop i);rw[zY] at this;omega
theorem GR (d:Dsk) (hl:d.files.length<=1000000) (hu:usedF d.files<=1000000000000):call 142 [.agg d.l] []=some (vi (usedF d.files:Nat),[]):=by
 apply ae TC rfl;refine bd ?_ Sj.eq_1 @Dsk.l.eq_1;refine aq (m:=0) (σ:=Nat) (fun i=>d.files.length-i) (fun i=>i<=d.files.length) (fun i=>[vi (usedF (d.files.take i):Nat),vl (d.files.map Fil.enc),vi d.files.length,vi i]) (fun i=>[])
  (fun t=>(vi (usedF d.files:Nat),[])) ?_ 0 (zP _) _ _ ?_
 rotate_left
 ·exact bA
 intro i hi R hR;have hle:=n5 d.files i;by_cases c:i<d.files.length
 ·have hR':=hR (i+1) (by omega) (by omega)
  have e1:usedF (d.files.take (i+1))=usedF (d.files.take i)+d.files[i].data.length:=by
   rw[zO c,cW,gM]
  have hle2:=n5 d.files (i+1);have g1:(d.files.map Fil.enc)[i]?=some d.files[i].enc:=by simp[c]
  rw[e1] at hR' hle2;generalize usedF (d.files.take i)=u at *;refine bd ?_ D3.eq_1 g1 @Fil.len @Fil.tkL @Fil.tk @Fil.at1 @Fil.fd1 @Fil.lenL @zM;exact hR' _ _ bA
 ·have hi2:i=d.files.length:=by omega
  subst hi2;rw[List.take_length];refine bd ?_ D3.eq_1;try simp[trim]
def ai (d:Dsk) (r:List Fil × Int):Dsk × Int :=
 if d.down=true then(d,10) else if r.2≠0 then(d,r.2) else if d.armed=true then(if d.left=0 then({ d with down:=true },10) else({ d with left:=d.left-1,files:=r.1 },0)) else({ d with files:=r.1 },0)
theorem Fa (d:Dsk) (hl:d.files.length<=1000000) (hs:srt d.files) (hL:0<=d.left∧d.left<9223372036854775808) (n:Txt) (g:Nat)  (fs:List Fil) (e:Int)
  (hdo:∀ D R:Box,∃ B,D=.cells d.l->d.down=false->ak call g [.one (.sl 3 3 0 d.files.length),vi (au d.files n:Nat),vb (bS d.files n)] [D,R,.dead,.arr 3 (d.files.map Fil.enc) 0]=some (.tup [(false,[.d (.l (fs.map Fil.enc))]),(false,[zI e])],[D,R,.dead,B])) :
  call 140 [.agg d.l,vs n,.one (.f g [])] []=some (.tup [(true,(ai d (fs,e)).1.l),(false,[.d (.i .i64 (ai d (fs,e)).2)])],[]):=by
 apply ae O1 rfl;have hcl:=Qg (d.files.map Fil.enc) (aZ Fil.len _) (by simp;omega) (by simp;omega)
 have hf:∀ D R:Box,ak call 172 [.one (.sl 3 3 0 d.files.length),vs n] [D,R,.dead,.arr 3 (d.files.map Fil.enc) 0]=some (dj d.files n,[D,R,.dead,.arr 3 (d.files.map Fil.enc) 0]):=fun D R =>
  aF (ids:=[3]) rfl rfl rfl (qi d.files hl hs n) rfl
 unfold dj at hf;obtain⟨fl,cp,ar,lf,dn⟩:=d;simp only at *;unfold ai;cases dn with
 | true =>
  refine bd ?_ ox.eq_1 @Dsk.l.eq_1;try simp[zR,Dsk.l]
 | false =>
  by_cases he:e=0
  ·subst he;cases ar with
   | false =>
    obtain⟨B,hB⟩:=hdo (.cells [.d (.l (fl.map Fil.enc)),zI cp,zB false,zI lf,zB false]) (.cells [.ns,zI 0,zB false,zI 0,zB false]);have hB:=hB rfl rfl;(simp(disch:=first|decide|omega|(intros;exact aP rfl rfl)|simp only[am]) only[ox,Dsk.l,↓hcl,↓hf,↓hB,zM,go_sem,seval,aO])
    try simp[zR,Dsk.l]
   | true =>
    obtain⟨B,hB⟩:=hdo (.cells [.d (.l (fl.map Fil.enc)),zI cp,zB true,zI lf,zB false]) (.cells [.ns,zI 0,zB false,zI 0,zB false]);have hB:=hB rfl rfl;by_cases hz:lf=0
    ·subst hz;(simp(disch:=first|decide|omega|(intros;exact aP rfl rfl)|simp only[am]) only[ox,Dsk.l,↓hcl,↓hf,↓hB,zM,go_sem,seval,aO])
     try simp[zR,Dsk.l]
    ·(simp(disch:=first|decide|omega|(intros;exact aP rfl rfl)|simp only[am]) only[ox,Dsk.l,↓hcl,↓hf,↓hB,zM,hz,go_sem,seval,aO])
     try simp[zR,Dsk.l,hz]
  ·obtain⟨B,hB⟩:=hdo (.cells [.d (.l (fl.map Fil.enc)),zI cp,zB ar,zI lf,zB false]) (.cells [.ns,zI 0,zB false,zI 0,zB false]);have hB:=hB rfl rfl;(simp(disch:=first|decide|omega|(intros;exact aP rfl rfl)|simp only[am]) only[ox,Dsk.l,↓hcl,↓hf,↓hB,zM,he,go_sem,seval,aO])
   try simp[zR,Dsk.l,he]
theorem EO (d:Dsk) (hl:d.files.length<=1000000) (hs:srt d.files) (hL:0<=d.left∧d.left<9223372036854775808) (n:Txt) (g:Nat) (x0:List L) (hx0:x0.flatMap L.refs=[]) (fs:List Fil) (e:Int)
  (hdo:∀ D R:Box,∃ B,D=.cells d.l->d.down=false->ak call g [.one (.sl 4 3 0 d.files.length),vi (au d.files n:Nat),vb (bS d.files n),.one (.p 0 0)] [(.cells x0),D,R,.dead,.arr 3 (d.files.map Fil.enc) 0]=some (.tup [(false,[.d (.l (fs.map Fil.enc))]),(false,[zI e])],[(.cells x0),D,R,.dead,B])) :
  call 140 [.agg d.l,vs n,.one (.f g [0])] [(.cells x0)]=some (.tup [(true,(ai d (fs,e)).1.l),(false,[.d (.i .i64 (ai d (fs,e)).2)])],[(.cells x0)]):=by
 apply ae O1 rfl;have hcl:=Qg (d.files.map Fil.enc) (aZ Fil.len _) (by simp;omega) (by simp;omega)
 have hf:∀ D R:Box,ak call 172 [.one (.sl 4 3 0 d.files.length),vs n] [(.cells x0),D,R,.dead,.arr 3 (d.files.map Fil.enc) 0]=some (dj d.files n,[(.cells x0),D,R,.dead,.arr 3 (d.files.map Fil.enc) 0]):=fun D R =>
  aF (ids:=[4]) rfl rfl rfl (qi d.files hl hs n) rfl
 unfold dj at hf;obtain⟨fl,cp,ar,lf,dn⟩:=d;simp only at *;unfold ai;cases dn with
 | true =>
  refine bd ?_ ox.eq_1 @Dsk.l.eq_1;try simp[zR,Dsk.l,hx0]
 | false =>
  by_cases he:e=0
  ·subst he;cases ar with
   | false =>
    obtain⟨B,hB⟩:=hdo (.cells [.d (.l (fl.map Fil.enc)),zI cp,zB false,zI lf,zB false]) (.cells [.ns,zI 0,zB false,zI 0,zB false]);have hB:=hB rfl rfl;(simp(disch:=first|decide|omega|(intros;exact aP rfl rfl)|simp only[am]) only[ox,Dsk.l,↓hcl,↓hf,↓hB,zM,go_sem,seval,aO])
    try simp[zR,Dsk.l,hx0]
   | true =>
    obtain⟨B,hB⟩:=hdo (.cells [.d (.l (fl.map Fil.enc)),zI cp,zB true,zI lf,zB false]) (.cells [.ns,zI 0,zB false,zI 0,zB false]);have hB:=hB rfl rfl;by_cases hz:lf=0
    ·subst hz;(simp(disch:=first|decide|omega|(intros;exact aP rfl rfl)|simp only[am]) only[ox,Dsk.l,↓hcl,↓hf,↓hB,zM,go_sem,seval,aO])
     try simp[zR,Dsk.l,hx0]
    ·(simp(disch:=first|decide|omega|(intros;exact aP rfl rfl)|simp only[am]) only[ox,Dsk.l,↓hcl,↓hf,↓hB,zM,hz,go_sem,seval,aO])
     try simp[zR,Dsk.l,hx0,hz]
  ·obtain⟨B,hB⟩:=hdo (.cells [.d (.l (fl.map Fil.enc)),zI cp,zB ar,zI lf,zB false]) (.cells [.ns,zI 0,zB false,zI 0,zB false]);have hB:=hB rfl rfl;(simp(disch:=first|decide|omega|(intros;exact aP rfl rfl)|simp only[am]) only[ox,Dsk.l,↓hcl,↓hf,↓hB,zM,he,go_sem,seval,aO])
   try simp[zR,Dsk.l,hx0,he]
theorem LP (d:Dsk) (hl:d.files.length<=1000000) (hs:srt d.files) (hL:0<=d.left∧d.left<9223372036854775808) (n:Txt) (g:Nat) (x0:List L) (hx0:x0.flatMap L.refs=[]) (x1:List L) (hx1:x1.flatMap L.refs=[]) (fs:List Fil) (e:Int)
  (hdo:∀ D R:Box,∃ B,D=.cells d.l->d.down=false->ak call g [.one (.sl 5 3 0 d.files.length),vi (au d.files n:Nat),vb (bS d.files n),.one (.p 0 0),.one (.p 1 0)] [(.cells x0),(.cells x1),D,R,.dead,.arr 3 (d.files.map Fil.enc) 0]=some (.tup [(false,[.d (.l (fs.map Fil.enc))]),(false,[zI e])],[(.cells x0),(.cells x1),D,R,.dead,B])) :
  call 140 [.agg d.l,vs n,.one (.f g [0,1])] [(.cells x0),(.cells x1)]=some (.tup [(true,(ai d (fs,e)).1.l),(false,[.d (.i .i64 (ai d (fs,e)).2)])],[(.cells x0),(.cells x1)]):=by
 apply ae O1 rfl;have hcl:=Qg (d.files.map Fil.enc) (aZ Fil.len _) (by simp;omega) (by simp;omega)
 have hf:∀ D R:Box,ak call 172 [.one (.sl 5 3 0 d.files.length),vs n] [(.cells x0),(.cells x1),D,R,.dead,.arr 3 (d.files.map Fil.enc) 0]=some (dj d.files n,[(.cells x0),(.cells x1),D,R,.dead,.arr 3 (d.files.map Fil.enc) 0]):=fun D R =>
  aF (ids:=[5]) rfl rfl rfl (qi d.files hl hs n) rfl
 unfold dj at hf;obtain⟨fl,cp,ar,lf,dn⟩:=d;simp only at *;unfold ai;cases dn with
 | true =>
  refine bd ?_ ox.eq_1 @Dsk.l.eq_1;try simp[zR,Dsk.l,hx0,hx1]
 | false =>
  by_cases he:e=0
  ·subst he;cases ar with
   | false =>
    obtain⟨B,hB⟩:=hdo (.cells [.d (.l (fl.map Fil.enc)),zI cp,zB false,zI lf,zB false]) (.cells [.ns,zI 0,zB false,zI 0,zB false]);have hB:=hB rfl rfl;(simp(disch:=first|decide|omega|(intros;exact aP rfl rfl)|simp only[am]) only[ox,Dsk.l,↓hcl,↓hf,↓hB,zM,go_sem,seval,aO])
    try simp[zR,Dsk.l,hx0,hx1]
   | true =>
    obtain⟨B,hB⟩:=hdo (.cells [.d (.l (fl.map Fil.enc)),zI cp,zB true,zI lf,zB false]) (.cells [.ns,zI 0,zB false,zI 0,zB false]);have hB:=hB rfl rfl;by_cases hz:lf=0
    ·subst hz;(simp(disch:=first|decide|omega|(intros;exact aP rfl rfl)|simp only[am]) only[ox,Dsk.l,↓hcl,↓hf,↓hB,zM,go_sem,seval,aO])
     try simp[zR,Dsk.l,hx0,hx1]
    ·(simp(disch:=first|decide|omega|(intros;exact aP rfl rfl)|simp only[am]) only[ox,Dsk.l,↓hcl,↓hf,↓hB,zM,hz,go_sem,seval,aO])
     try simp[zR,Dsk.l,hx0,hx1,hz]
  ·obtain⟨B,hB⟩:=hdo (.cells [.d (.l (fl.map Fil.enc)),zI cp,zB ar,zI lf,zB false]) (.cells [.ns,zI 0,zB false,zI 0,zB false]);have hB:=hB rfl rfl;(simp(disch:=first|decide|omega|(intros;exact aP rfl rfl)|simp only[am]) only[ox,Dsk.l,↓hcl,↓hf,↓hB,zM,he,go_sem,seval,aO])
   try simp[zR,Dsk.l,hx0,hx1,he]
def hJ (l:List Fil) (k:Nat) (f:Fil):List Fil:=l.take k++f::l.drop k
def bB (l:List Fil) (n:Txt):List Fil × Int:=if dU n=true then(if bS l n=true then([],8) else(hJ l (au l n) ⟨n,[],0⟩,0)) else([],1)
theorem cq {l:List Fil} {n:Txt} (h:bS l n=true):∃ hp:au l n<l.length,l[au l n].name=n:=by
 unfold bS at h;split at h
 ·rename_i f hf;obtain⟨hp,rfl⟩:=List.getElem?_eq_some_iff.1 hf;exact⟨hp,by simpa using h⟩
 ·cases h
theorem yG (l:List Fil) (k:Nat) (f:Fil):(l.map Fil.enc).take k++f.enc::(l.map Fil.enc).drop k=(hJ l k f).map Fil.enc:=by simp[hJ]
theorem vt (ρ:Nat->Option Nat) (xs:List L):Box.ren ρ (.cells xs)=.cells (xs.map (L.ren ρ)):=rfl
def oQ (fs:List Fil) (e:Int):V:=.tup [(false,[.d (.l (fs.map Fil.enc))]),(false,[zI e])]
theorem yi (l:List Fil) (k:Nat) (f:Fil) (h:k<=l.length):(hJ l k f).length=l.length+1:=by simp[hJ];omega
theorem zk (l:List Fil) (hl:l.length<=1000000) (n:Txt):∃ B:Box,(∀ ρ,B.ren ρ=B)∧call 149 [.one (.sl 0 3 0 l.length),vi (au l n:Nat),vb (bS l n),.one (.p 1 0)] [.arr 3 (l.map Fil.enc) 0,.cells [zS n]]=some (oQ (bB l n).1 (bB l n).2,[B,.cells [zS n]]):=by
 have hn:=vh n;unfold bB oQ;cases c:dU n with
 | false =>
  refine⟨.arr 3 (l.map Fil.enc) 0,fun _=>rfl,?_⟩
  apply ae Pm rfl;rw[c] at hn;refine bd ?_ Ly.eq_1 hn;try simp[zR]
 | true =>
  rw[c] at hn;cases c2:bS l n with
  | true =>
   refine⟨.arr 3 (l.map Fil.enc) 0,fun _=>rfl,?_⟩
   apply ae Pm rfl;refine bd ?_ Ly.eq_1 hn;try simp[zR]
  | false =>
   refine⟨.dead,fun _=>rfl,?_⟩
   apply ae Pm rfl;have hp:=pm l n;have hi0:=yA (l:=lib) (an:=tv JR) (P:=Tryz.prog) (f:=151) (k:=3) (bytes:=40) rfl rfl (l.map Fil.enc) (Fil.enc ⟨n,[],0⟩) (au l n) 0 rfl (by simpa using hp) (by simp;omega) (by simp;omega)
   rw[yG,zM] at hi0;have hi:∀ C:Box,ak call 151 [.one (.sl 0 3 0 l.length),vi (au l n:Nat),.one (.sl 2 3 0 1)] [.arr 3 (l.map Fil.enc) 0,C,.arr 3 [[.s n,.s [],.i .i64 0]] 0]=some (.one (.sl 3 3 0 (l.length+1)),[.dead,C,.arr 3 [[.s n,.s [],.i .i64 0]] 0,.arr 3 ((hJ l (au l n) ⟨n,[],0⟩).map Fil.enc) 0]):=fun C =>
    aF (ids:=[0,2]) rfl rfl rfl hi0 rfl
   have hll:=yi l (au l n) ⟨n,[],0⟩ hp;generalize hJ l (au l n) ⟨n,[],0⟩=q at *;have htk:(q.map Fil.enc).take (l.length+1)=q.map Fil.enc:=zL (by simp;omega)
   (simp(disch:=first|decide|omega|(intros;exact aP rfl rfl)|simp only[am]) only[Ly,hn,↓hi,zM,hll,htk,go_sem,seval,aO])
   try simp[zR]
def aK (r:Dsk × Int):V:=.tup [(true,r.1.l),(false,[zI r.2])]
structure Dsk.ok (d:Dsk):Prop where
 len:d.files.length<=1000000
 srt:srt d.files
 left:0<=d.left∧d.left<9223372036854775808
 cap:0<=d.cap∧d.cap<9223372036854775808
 used:usedF d.files<=1000000000000
theorem lc (d:Dsk) (hd:d.ok) (n:Txt):call 111 [.agg d.l,vs n] []=some (aK (ai d (bB d.files n)),[]):=by
 apply ae Uq rfl;have h0:=EO d hd.len hd.srt hd.left n 149 [zS n] rfl (bB d.files n).1 (bB d.files n).2 (fun D R=>by
  obtain⟨B,hB,h⟩:=zk d.files hd.len n;exact⟨B,fun _ _=>aF (ids:=[4,0]) rfl rfl rfl h (by simp[cu,hB,oQ,V.ren,L.ren,vt])⟩)
 have h:∀ D R:Box,ak call 140 [.agg d.l,vs n,.one (.f 149 [1])] [D,.cells [zS n],R]=some (aK (ai d (bB d.files n)),[D,.cells [zS n],R]):=fun D R =>
  aF (ids:=[1]) rfl rfl rfl h0 rfl
 generalize ai d (bB d.files n)=r at *;obtain⟨⟨f2,cp2,ar2,lf2,dn2⟩,e2⟩:=r;obtain⟨fl,cp,ar,lf,dn⟩:=d;simp only[aK,Dsk.l] at h ⊢;(simp(disch:=first|decide|omega|(intros;exact aP rfl rfl)|simp only[am]) only[fU,Rj,↓h,go_sem,seval,aO])
 try simp[trim]
def ou (l:List Fil) (k:Nat) (g:Fil->Fil):List Fil:=match l[k]? with|some f=>l.set k (g f)|none=>l
theorem ji {l:List Fil} {k:Nat} (h:k<l.length) (g:Fil->Fil):ou l k g=l.set k (g l[k]):=by unfold ou;rw[zE h]
theorem yk (l:List Fil) (k:Nat) (g:Fil->Fil):(ou l k g).length=l.length:=by unfold ou;split <;> simp
def bM (l:List Fil) (cap:Int) (n x:Txt):List Fil × Int:=if bS l n=true then(if 0<cap∧cap-(usedF l:Nat)<x.length then([],9) else(ou l (au l n) (fun f=>{ f with data:=f.data++x }),0)) else([],7)
def ch (l:List Fil) (n:Txt):List Fil × Int:=if bS l n=true then(ou l (au l n) (fun f=>{ f with sure:=f.data.length }),0) else([],7)
def fI (l:List Fil) (k:Nat):List Fil:=l.take k++l.drop (k+1)
def bN (l:List Fil) (n:Txt):List Fil × Int:=if bS l n=true then(fI l (au l n),0) else([],7)
theorem nP (l:List Fil) (k:Nat) (h:k<l.length):l[k].data.length<=usedF l:=by
 have e:l=l.take k++([l[k]]++l.drop (k+1)):=by rw[List.singleton_append,<- zD h,zY]
 have:usedF l=usedF (l.take k)+(usedF [l[k]]+usedF (l.drop (k+1))):=by
  rw[<- cW,<- cW,<- e]
 rw[gM] at this;omega
theorem Fil.ix1 (f:Fil):f.enc[1]?=some (.s f.data):=Eq.trans rfl rfl
theorem Fil.ix2 (f:Fil):f.enc[2]?=some (.i .i64 f.sure):=Eq.trans rfl rfl
theorem yq (d:Dsk) (hd:d.ok) (n x:Txt) (hx:x.length<=1000000000000):∃ B:Box,(∀ ρ,B.ren ρ=B)∧call 141 [.one (.sl 0 3 0 d.files.length),vi (au d.files n:Nat),vb (bS d.files n),.one (.p 1 0),.one (.p 2 0)] [.arr 3 (d.files.map Fil.enc) 0,.cells d.l,.cells [zS x]]=some (oQ (bM d.files d.cap n x).1 (bM d.files d.cap n x).2,[B,.cells d.l,.cells [zS x]]):=by
 have hu:=GR d hd.len hd.used;have hub:=hd.used;have hc:=hd.cap;have hln:=hd.len;unfold bM oQ;obtain⟨l,cp,ar,lf,dn⟩:=d;simp only at hu hub hc hln ⊢;cases c:bS l n with
 | false =>
  refine⟨.arr 3 (l.map Fil.enc) 0,fun _=>rfl,?_⟩
  apply ae Qo rfl;refine bd ?_ KG.eq_1;try simp[zR,Dsk.l]
 | true =>
  obtain⟨hp,hnm⟩:=cq c;obtain⟨k,hk⟩:∃ k,k=au l n:=⟨_,rfl⟩;rw[ji hp];simp only[<- hk] at hp hnm ⊢;by_cases c1:0<cp∧cp-(usedF l:Nat)<x.length
  ·refine⟨.arr 3 (l.map Fil.enc) 0,fun _=>rfl,?_⟩
   apply ae Qo rfl;obtain⟨c2,c3⟩:=c1;have hw:IntKind.i64.wrap (cp-((usedF l:Nat):Int))=cp-((usedF l:Nat):Int):=ir (by omega)
   have h2:(cp-((usedF l:Nat):Int)<((x.length:Nat):Int))=True:=eq_true c3;simp only[Dsk.l] at hu;refine bd ?_ KG.eq_1 @Dsk.l.eq_1 hu hw c2 h2;try simp[zR,Dsk.l,c2,c3]
  ·have hle:=nP l k hp;have g1:(l.map Fil.enc)[k]?=some l[k].enc:=by simp[hp]
   have hset:(l.map Fil.enc).set k (Fil.enc { l[k] with data:=l[k].data++x })=(l.set k { l[k] with data:=l[k].data++x }).map Fil.enc:=by rw[List.map_set]
   have hup:=Fil.up1 l[k] (l[k].data++x);have hlen:l[k].data.length+x.length<=9223372036854775807:=by omega
   refine⟨.arr 3 ((l.set k { l[k] with data:=l[k].data++x }).map Fil.enc) l.length,fun _=>rfl,?_⟩
   apply ae Qo rfl;have htk:((l.set k { l[k] with data:=l[k].data++x }).map Fil.enc).take l.length=(l.set k { l[k] with data:=l[k].data++x }).map Fil.enc:=zL (by simp)
   have hll:((l.set k { l[k] with data:=l[k].data++x }).map Fil.enc).length=l.length:=by simp
   by_cases c2:0<cp
   ·have c3:¬ cp-(usedF l:Nat)<x.length:=fun h=>c1 ⟨c2,h⟩
    have hw:IntKind.i64.wrap (cp-((usedF l:Nat):Int))=cp-((usedF l:Nat):Int):=ir (by omega)
    simp only[Dsk.l] at hu;refine bd ?_ KG.eq_1 @Dsk.l.eq_1 hu hw c2 c3 g1 @Fil.len @Fil.at1 @Fil.ix1 hup (And.intro hset (And.intro hll (And.intro htk hlen)));try simp[zR,Dsk.l,c2,c3]
   ·refine bd ?_ KG.eq_1 @Dsk.l.eq_1 c2 g1 @Fil.len @Fil.at1 @Fil.ix1 hup hset hll htk hlen;try simp[zR,Dsk.l,c2]
theorem kW (d:Dsk) (hd:d.ok) (n x:Txt) (hx:x.length<=1000000000000):call 102 [.agg d.l,vs n,vs x] []=some (aK (ai d (bM d.files d.cap n x)),[]):=by
 apply ae Vs rfl;have hrf:d.l.flatMap L.refs=[]:=rfl;have h0:=LP d hd.len hd.srt hd.left n 141 d.l hrf [zS x] rfl (bM d.files d.cap n x).1 (bM d.files d.cap n x).2 (fun D R=>by
  obtain⟨B,hB,h⟩:=yq d hd n x hx;exact⟨B,fun _ _=>aF (ids:=[5,0,1]) rfl rfl rfl h (by simp[cu,hB,oQ,V.ren,L.ren,vt,Dsk.l])⟩)
 have h:∀ D R:Box,ak call 140 [.agg d.l,vs n,.one (.f 141 [0,1])] [.cells d.l,.cells [zS x],R]=some (aK (ai d (bM d.files d.cap n x)),[.cells d.l,.cells [zS x],R]):=fun D R =>
  aF (ids:=[0,1]) rfl rfl rfl h0 rfl
 have h:=h .dead;generalize ai d (bM d.files d.cap n x)=r at *;obtain⟨⟨f2,cp2,ar2,lf2,dn2⟩,e2⟩:=r;obtain⟨fl,cp,ar,lf,dn⟩:=d;simp only[aK,Dsk.l] at h ⊢;(simp(disch:=first|decide|omega|(intros;exact aP rfl rfl)|simp only[am]) only[fU,R4,↓h,go_sem,seval,aO])
 try simp[trim]
theorem DQ (l:List Fil) (hl:l.length<=1000000) (hu:usedF l<=1000000000000) (n:Txt):∃ B:Box,(∀ ρ,B.ren ρ=B)∧call 144 [.one (.sl 0 3 0 l.length),vi (au l n:Nat),vb (bS l n)] [.arr 3 (l.map Fil.enc) 0]=some (oQ (ch l n).1 (ch l n).2,[B]):=by
 unfold ch oQ;cases c:bS l n with
 | false =>
  refine⟨.arr 3 (l.map Fil.enc) 0,fun _=>rfl,?_⟩
  apply ae SY rfl;refine bd ?_ Qq.eq_1;try simp[zR]
 | true =>
  obtain⟨hp,hnm⟩:=cq c;obtain⟨k,hk⟩:∃ k,k=au l n:=⟨_,rfl⟩;rw[ji hp];simp only[<- hk] at hp hnm ⊢;have hle:=nP l k hp;have g1:(l.map Fil.enc)[k]?=some l[k].enc:=by simp[hp]
  have hset:(l.map Fil.enc).set k (Fil.enc { l[k] with sure:=(l[k].data.length:Nat) })=(l.set k { l[k] with sure:=(l[k].data.length:Nat) }).map Fil.enc:=by rw[List.map_set]
  have hup:=Fil.up2 l[k] (l[k].data.length:Nat);refine⟨.arr 3 ((l.set k { l[k] with sure:=(l[k].data.length:Nat) }).map Fil.enc) l.length,fun _=>rfl,?_⟩
  apply ae SY rfl;have htk:((l.set k { l[k] with sure:=(l[k].data.length:Nat) }).map Fil.enc).take l.length=(l.set k { l[k] with sure:=(l[k].data.length:Nat) }).map Fil.enc:=zL (by simp)
  have hll:((l.set k { l[k] with sure:=(l[k].data.length:Nat) }).map Fil.enc).length=l.length:=by simp
  refine bd ?_ Qq.eq_1 g1 @Fil.len @Fil.at1 @Fil.ix1 @Fil.ix2 hup hset hll htk;try simp[zR]
theorem oa (d:Dsk) (hd:d.ok) (n:Txt):call 104 [.agg d.l,vs n] []=some (aK (ai d (ch d.files n)),[]):=by
 apply ae TH rfl;have h0:=Fa d hd.len hd.srt hd.left n 144 (ch d.files n).1 (ch d.files n).2 (fun D R=>by
  obtain⟨B,hB,h⟩:=DQ d.files hd.len hd.used n;exact⟨B,fun _ _=>aF (ids:=[3]) rfl rfl rfl h (by simp[cu,hB,oQ,V.ren,L.ren,vt])⟩)
 have h:∀ H:Hp,ak call 140 [.agg d.l,vs n,.one (.f 144 [])] H=some (aK (ai d (ch d.files n)),H):=fun H=>callIso_pure rfl h0 rfl
 generalize ai d (ch d.files n)=r at *;obtain⟨⟨f2,cp2,ar2,lf2,dn2⟩,e2⟩:=r;obtain⟨fl,cp,ar,lf,dn⟩:=d;simp only[aK,Dsk.l] at h ⊢;(simp(disch:=first|decide|omega|(intros;exact aP rfl rfl)|simp only[am]) only[fU,RP,↓h,go_sem,seval,aO])
 try simp[trim]
theorem Fj (l:List Fil) (k:Nat):(l.map Fil.enc).take k++(l.map Fil.enc).drop (k+1)=(fI l k).map Fil.enc:=by simp[fI]
theorem qA (l:List Fil) (k:Nat) (h:k<l.length):(fI l k).length=l.length-1:=by simp[fI];omega
theorem yl (l:List Fil) (hl:l.length<=1000000) (n:Txt):∃ B:Box,(∀ ρ,B.ren ρ=B)∧call 179 [.one (.sl 0 3 0 l.length),vi (au l n:Nat),vb (bS l n)] [.arr 3 (l.map Fil.enc) 0]=some (oQ (bN l n).1 (bN l n).2,[B]):=by
 unfold bN oQ;cases c:bS l n with
 | false =>
  refine⟨.arr 3 (l.map Fil.enc) 0,fun _=>rfl,?_⟩
  apply ae Q5 rfl;refine bd ?_ PL.eq_1;try simp[zR]
 | true =>
  obtain⟨hp,hnm⟩:=cq c;refine⟨.dead,fun _=>rfl,?_⟩
  apply ae Q5 rfl;have hd0:=D4 (l:=lib) (an:=tv JR) (P:=Tryz.prog) (f:=180) (k:=3) rfl rfl rfl (l.map Fil.enc) (au l n) (by simpa using hp) (by simp;omega)
  rw[Fj,zM] at hd0;have hi:ak call 180 [.one (.sl 0 3 0 l.length),vi (au l n:Nat),.one (zI (((au l n:Nat):Int)+1))] [.arr 3 (l.map Fil.enc) 0]=some (.one (.sl 1 3 0 (l.length-1)),[.dead,.arr 3 ((fI l (au l n)).map Fil.enc) 0]) :=
   aF (ids:=[0]) rfl rfl rfl hd0 rfl
  have hll:=qA l (au l n) hp;generalize fI l (au l n)=q at *;have htk:(q.map Fil.enc).take (l.length-1)=q.map Fil.enc:=zL (by simp;omega)
  (simp(disch:=first|decide|omega|(intros;exact aP rfl rfl)|simp only[am]) only[PL,↓hi,zM,hll,htk,go_sem,seval,aO])
  try simp[zR]
theorem gB (d:Dsk) (hd:d.ok) (n:Txt):call 153 [.agg d.l,vs n] []=some (aK (ai d (bN d.files n)),[]):=by
 apply ae TO rfl;have h0:=Fa d hd.len hd.srt hd.left n 179 (bN d.files n).1 (bN d.files n).2 (fun D R=>by
  obtain⟨B,hB,h⟩:=yl d.files hd.len n;exact⟨B,fun _ _=>aF (ids:=[3]) rfl rfl rfl h (by simp[cu,hB,oQ,V.ren,L.ren,vt])⟩)
 have h:∀ H:Hp,ak call 140 [.agg d.l,vs n,.one (.f 179 [])] H=some (aK (ai d (bN d.files n)),H):=fun H=>callIso_pure rfl h0 rfl
 generalize ai d (bN d.files n)=r at *;obtain⟨⟨f2,cp2,ar2,lf2,dn2⟩,e2⟩:=r;obtain⟨fl,cp,ar,lf,dn⟩:=d;simp only[aK,Dsk.l] at h ⊢;(simp(disch:=first|decide|omega|(intros;exact aP rfl rfl)|simp only[am]) only[fU,Rq,↓h,go_sem,seval,aO])
 try simp[trim]
theorem mG {l:List Fil} (h:srt l) (k:Nat):srt (fI l k):=by
 have:(fI l k).Sublist l:=by
  unfold fI;have e:l=l.take k++l.drop k:=(zY k l).symm;conv=>rhs;rw[e]
  exact List.Sublist.append (List.Sublist.refl _) (by rw[show k+1=k+1 from rfl,<- List.drop_drop];exact List.drop_sublist 1 _)
 exact List.Pairwise.sublist this h
def jm (l:List Fil) (f:Fil):List Fil:=if bS l f.name=true then l.set (au l f.name) f else hJ l (au l f.name) f
def eb (l:List Fil) (k:Nat) (n:Txt):Fil:=match l[k]? with|some f=>{ f with name:=n }|none=>⟨n,[],0⟩
def i8 (l:List Fil) (n t:Txt):List Fil × Int:=if bS l n=true then(if dU t=true then(jm (fI l (au l n)) (eb l (au l n) t),0) else([],1)) else([],7)
theorem A2 (l:List Fil) (k:Nat) (n:Txt):(eb l k n).name=n:=by unfold eb;split <;> rfl
theorem Gh (l:List Fil) (f:Fil):(jm l f).length<=l.length+1:=by
 unfold jm;split
 ·simp
 ·rw[yi _ _ _ (pm _ _)];omega
theorem xL (l:List Fil) (hl:l.length<=1000000) (hs:srt l) (n t:Txt):∃ B:Box,(∀ ρ,B.ren ρ=B)∧call 184 [.one (.sl 0 3 0 l.length),vi (au l n:Nat),vb (bS l n),.one (.p 1 0)] [.arr 3 (l.map Fil.enc) 0,.cells [zS t]]=some (oQ (i8 l n t).1 (i8 l n t).2,[B,.cells [zS t]]):=by
 have hn:=vh t;unfold i8 oQ;cases c:bS l n with
 | false =>
  refine⟨.arr 3 (l.map Fil.enc) 0,fun _=>rfl,?_⟩
  apply ae Pq rfl;refine bd ?_ KH.eq_1;try simp[zR]
 | true =>
  obtain⟨hp,hnm⟩:=cq c;cases cn:dU t with
  | false =>
   refine⟨.arr 3 (l.map Fil.enc) 0,fun _=>rfl,?_⟩
   apply ae Pq rfl;rw[cn] at hn;refine bd ?_ KH.eq_1 hn;try simp[zR]
  | true =>
   rw[cn] at hn;refine⟨.dead,fun _=>rfl,?_⟩
   apply ae Pq rfl;have hna:eb l (au l n) t={ l[au l n] with name:=t }:=by unfold eb;rw[zE hp]
   have g1:(l.map Fil.enc)[au l n]?=some l[au l n].enc:=by simp[hp]
   have hd0:=D4 (l:=lib) (an:=tv JR) (P:=Tryz.prog) (f:=180) (k:=3) rfl rfl rfl (l.map Fil.enc) (au l n) (by simpa using hp) (by simp;omega)
   rw[Fj,zM] at hd0;have hi:∀ C D:Box,ak call 180 [.one (.sl 0 3 0 l.length),vi (au l n:Nat),.one (zI (((au l n:Nat):Int)+1))] [.arr 3 (l.map Fil.enc) 0,C,D]=some (.one (.sl 3 3 0 (l.length-1)),[.dead,C,D,.arr 3 ((fI l (au l n)).map Fil.enc) 0]):=fun C D =>
    aF (ids:=[0]) rfl rfl rfl hd0 rfl
   have hll:=qA l (au l n) hp;have hsd:=mG hs (au l n);obtain⟨f,hf⟩:∃ f,f=l[au l n]:=⟨_,rfl⟩;rw[<- hf] at hna g1;rw[hna];have hlt:au l n<l.length:=hp;generalize au l n=p at *;generalize fI l p=q at *;have hfb:=qi q (by omega) hsd t
   rw[hll] at hfb;unfold dj at hfb;have hfi:∀ C D:Box,ak call 172 [.one (.sl 3 3 0 (l.length-1)),vs t] [.dead,C,D,.arr 3 (q.map Fil.enc) 0]=some (.tup [(false,[zI (au q t:Nat)]),(false,[zB (bS q t)])],[.dead,C,D,.arr 3 (q.map Fil.enc) 0]):=fun C D =>
    aF (ids:=[3]) rfl rfl rfl hfb rfl
   unfold jm;cases c2:bS q t with
   | true =>
    obtain⟨hp2,hnm2⟩:=cq c2;rw[c2] at hfi;have g2:(q.map Fil.enc)[au q t]?=some q[au q t].enc:=by simp[hp2]
    have hset:(q.map Fil.enc).set (au q t) (Fil.enc { f with name:=t })=(q.set (au q t) { f with name:=t }).map Fil.enc:=by rw[List.map_set]
    have hll2:((q.set (au q t) { f with name:=t }).map Fil.enc).length=l.length-1:=by simp[hll]
    have htk:((q.set (au q t) { f with name:=t }).map Fil.enc).take (l.length-1)=(q.set (au q t) { f with name:=t }).map Fil.enc:=zL (by omega)
    have hfe:Fil.enc { f with name:=t }=[.s t,.s f.data,.i .i64 f.sure]:=rfl
    have hfe2:f.enc=[.s f.name,.s f.data,.i .i64 f.sure]:=rfl;have hdr:q[au q t].enc.drop 3=[]:=rfl;rw[hfe] at hset;rw[hfe2] at g1;(simp(disch:=first|decide|omega|(intros;exact aP rfl rfl)|simp only[am]) only[KH,hn,g1,↓hi,↓hfi,g2,hset,hll2,htk,Fil.len,List.map_cons,List.map_nil,hdr,List.append_nil,List.nil_append,List.length_cons,List.length_nil,go_sem,seval,aO])
    try simp[zR,c2]
   | false =>
    rw[c2] at hfi;have hp2:=pm q t;have hi0:=yA (l:=lib) (an:=tv JR) (P:=Tryz.prog) (f:=151) (k:=3) (bytes:=40) rfl rfl (q.map Fil.enc) (Fil.enc { f with name:=t }) (au q t) 0 rfl (by simpa using hp2) (by simp;omega) (by simp;omega)
    rw[yG,zM,hll] at hi0;have hil:=yi q (au q t) { f with name:=t } hp2
    have hin:∀ C D:Box,ak call 151 [.one (.sl 3 3 0 (l.length-1)),vi (au q t:Nat),.one (.sl 4 3 0 1)] [.dead,C,D,.arr 3 (q.map Fil.enc) 0,.arr 3 [[.s t,.s f.data,.i .i64 f.sure]] 0]=some (.one (.sl 5 3 0 (l.length-1+1)),[.dead,C,D,.dead,.arr 3 [[.s t,.s f.data,.i .i64 f.sure]] 0,.arr 3 ((hJ q (au q t) { f with name:=t }).map Fil.enc) 0]):=fun C D =>
     aF (ids:=[3,4]) rfl rfl rfl hi0 rfl
    generalize hJ q (au q t) { f with name:=t }=z at *
    have htk:(z.map Fil.enc).take (l.length-1+1)=z.map Fil.enc:=zL (by simp;omega)
    have hzl:z.length=l.length-1+1:=by omega
    have hfe2:f.enc=[.s f.name,.s f.data,.i .i64 f.sure]:=rfl;rw[hfe2] at g1;(simp(disch:=first|decide|omega|(intros;exact aP rfl rfl)|simp only[am]) only[KH,hn,g1,↓hi,↓hfi,↓hin,zM,hzl,htk,Fil.len,List.map_cons,List.map_nil,List.append_nil,List.nil_append,List.length_cons,List.length_nil,go_sem,seval,aO])
    try simp[zR,c2]
theorem Bv (d:Dsk) (hd:d.ok) (n t:Txt):call 170 [.agg d.l,vs n,vs t] []=some (aK (ai d (i8 d.files n t)),[]):=by
 apply ae Uz rfl;have h0:=EO d hd.len hd.srt hd.left n 184 [zS t] rfl (i8 d.files n t).1 (i8 d.files n t).2 (fun D R=>by
  obtain⟨B,hB,h⟩:=xL d.files hd.len hd.srt n t;exact⟨B,fun _ _=>aF (ids:=[4,0]) rfl rfl rfl h (by simp[cu,hB,oQ,V.ren,L.ren,vt])⟩)
 have h:∀ D R:Box,ak call 140 [.agg d.l,vs n,.one (.f 184 [1])] [D,.cells [zS t],R]=some (aK (ai d (i8 d.files n t)),[D,.cells [zS t],R]):=fun D R =>
  aF (ids:=[1]) rfl rfl rfl h0 rfl
 generalize ai d (i8 d.files n t)=r at *;obtain⟨⟨f2,cp2,ar2,lf2,dn2⟩,e2⟩:=r;obtain⟨fl,cp,ar,lf,dn⟩:=d;simp only[aK,Dsk.l] at h ⊢;(simp(disch:=first|decide|omega|(intros;exact aP rfl rfl)|simp only[am]) only[fU,Sp,↓h,go_sem,seval,aO])
 try simp[trim]
def NL (c:Nat->Int):List L:=(List.range 14).map fun j=>zU (c j)
theorem DM (c:Nat->Int):(NL c).length=14:=by simp[NL]
theorem ID (c:Nat->Int) (n:Nat) (x:Int) (h:n<14):(NL c).take n++[zU x]++(NL c).drop (n+1)=NL (fun j=>if j=n then x else c j):=by
 rw[List.append_assoc,List.singleton_append];apply List.ext_getElem?;intro j;have hl:((NL c).take n).length=n:=by rw[zQ,DM];omega
 by_cases hj:j<14
 ·have e:∀ c:Nat->Int,(NL c)[j]?=some (zU (c j)):=fun c=>by simp[NL,hj]
  rw[e];rcases Nat.lt_trichotomy j n with h1|h1|h1
  ·rw[List.getElem?_append_left (by omega),List.getElem?_take,if_pos h1,e,if_neg (by omega)]
  ·subst h1;rw[List.getElem?_append_right (by omega),hl,Nat.sub_self,if_pos rfl];rfl
  ·rw[List.getElem?_append_right (by omega),hl,if_neg (by omega)]
   obtain⟨m,hm⟩:∃ m,j-n=m+1:=⟨j-n-1,by omega⟩
   rw[hm,List.getElem?_cons_succ,List.getElem?_drop,show n+1+m=j by omega,e]
 ·rw[List.getElem?_eq_none (by simp[NL];omega),List.getElem?_eq_none (by simp[NL];omega)]
def jP (n j:Nat):Nat:=48+n / 10 ^ (13-j) % 10
def fT (c:UInt8) (n:Nat):Txt:=c::(List.range 13).map fun j=>UInt8.ofNat (jP n (j+1))
def cF (n i:Nat) (j:Nat):Int:=if j<=i then 0 else((jP n j:Nat):Int)
theorem LM (n i:Nat) (h:1<=i∧i<=13):(fun j=>if j=i then(48+((n / 10 ^ (13-i) % 10:Nat):Int)) else cF n i j)=cF n (i-1):=by
 funext j
 unfold cF jP;by_cases h1:j=i
 ·subst h1;rw[if_pos rfl,if_neg (by omega)];omega
 ·rw[if_neg h1];by_cases h2:j<=i
  ·rw[if_pos h2,if_pos (by omega)]
  ·rw[if_neg h2,if_neg (by omega)]
theorem MU:[zU 0,zU 0,zU 0,zU 0,zU 0,zU 0,zU 0,zU 0,zU 0,zU 0,zU 0,zU 0,zU 0,zU 0]=NL (fun _=>0):=rfl
theorem SP (n:Nat):NL (fun _=>0)=NL (cF n 13):=by
 unfold NL;apply List.map_congr_left;intro j hj;rw[List.mem_range] at hj;unfold cF;rw[if_pos (by omega)]
theorem KX (n i:Nat) (h:1<=i∧i<=13):n / 10 ^ (13-i) / 10=n / 10 ^ (13-(i-1)):=by
 rw[Nat.div_div_eq_div_mul,<- Nat.pow_succ];congr 2;omega
theorem xd (c:UInt8) (n:Nat) (hn:n<=1099511627776):call 143 [vk .u8 ((c.toNat:Nat):Int),vi n] []=some (vs (fT c n),[]):=by
 apply ae Vf rfl;obtain⟨Z,hZ⟩:∃ Z:V × Hp,Z=(vs (fT c n),[]):=⟨_,rfl⟩;rw[<- hZ];have hz:=MU;refine bd ?_ Sl.eq_1 hz (SP n);refine aq (m:=0) (σ:=Nat) (fun i=>i) (fun i=>i<=13) (fun i=>[vk .u8 ((c.toNat:Nat):Int),vi (n / 10 ^ (13-i):Nat),V.one (.p 0 0),vi i]) (fun i=>[.cells (NL (cF n i))]) (fun _=>Z) ?_ 13 (Nat.le_refl _) _ _ ?_
 rotate_left
 ·have e:n / 10 ^ (13-13)=n:=by simp
  rw[e];exact bA
 intro i hi R hR;by_cases c1:0<i
 ·have hR':=hR (i-1) (by omega) (by omega)
  rw[<- LM n i (by omega),<- KX n i (by omega)] at hR'
  obtain⟨q,hq⟩:∃ q,q=n / 10 ^ (13-i):=⟨_,rfl⟩;rw[<- hq] at hR' ⊢;have hqn:q<=n:=by rw[hq];exact Nat.div_le_self _ _
  have hm:((q:Nat):Int).tmod 10=((q % 10:Nat):Int):=by rw[Int.tmod_eq_emod_of_nonneg (by omega)];omega
  have hd:((q:Nat):Int).tdiv 10=((q / 10:Nat):Int):=by rw[Int.tdiv_eq_ediv_of_nonneg (by omega)];omega
  have hset:=ID (cF n i) i (48+((q % 10:Nat):Int)) (by omega)
  have hsub:(i:Int)-1=((i-1:Nat):Int):=by omega
  refine bd ?_ D1.eq_1 c1 hm hd hset @DM @Nat.mul_one @Nat.zero_add hsub;exact hR' _ _ bA
 ·have h0:i=0:=by omega
  subst h0;have hset:=ID (cF n 0) 0 ((c.toNat:Nat):Int) (by decide)
  have hex:NL (fun j=>if j=0 then((c.toNat:Nat):Int) else cF n 0 j)=[zU ((c.toNat:Nat):Int),zU (jP n 1:Nat),zU (jP n 2:Nat),zU (jP n 3:Nat),zU (jP n 4:Nat),zU (jP n 5:Nat),zU (jP n 6:Nat),zU (jP n 7:Nat),zU (jP n 8:Nat),zU (jP n 9:Nat),zU (jP n 10:Nat),zU (jP n 11:Nat),zU (jP n 12:Nat),zU (jP n 13:Nat)]:=rfl
  simp only[List.take_zero,List.nil_append] at hset;rw[hex] at hset;(simp(disch:=first|decide|omega|(intros;exact aP rfl rfl)|simp only[am]) only[D1,c1,hset,DM,Nat.mul_one,Nat.zero_add,List.nil_append,gk,Int.toNat_natCast,List.map_cons,List.map_nil,UInt8.ofNat_toNat,go_sem,seval,aO])
  rw[hZ];try rfl
theorem J2 (n:Nat) (hn:n<=1099511627776):call 103 [vi n] []=some (vs (fT 115 n),[]):=by
 apply ae UW rfl;have h:=xd 115 n hn;have e:(((115:UInt8).toNat:Nat):Int)=115:=rfl;rw[e] at h;refine bd ?_ Sb.eq_1 h;try simp[trim]
structure Man where
 ver:Int
 segs:List Int
 size:Int
 sum:Int
def eI (n:Int):List D:=[.i .i64 n]
theorem dL (n:Int):(eI n).length=1:=Eq.trans rfl rfl
theorem fR (n:Int):(eI n)[0]?=some (.i .i64 n):=Eq.trans rfl rfl
def Man.l (m:Man):List L:=[zI m.ver,.d (.l (m.segs.map eI)),zI m.size,zW m.sum]
def lx:Int->List Int->Bool
 | _,[]=>true
 | a,n::l=>decide (a<n∧n<=1099511627776) && lx n l
def manB (m:Man):Bool:=decide (1<=m.ver∧m.ver<=1099511627776∧1<=m.segs.length∧m.segs.length<=64) && (lx (-1) m.segs && (if m.segs.head?=some 0 then decide (m.size=0∧m.sum=0) else decide (0<m.size∧m.size<=65536)))
theorem wW {l:List Int} {i:Nat} (a:Int) (h:i<l.length):lx a (l.drop i)=(decide (a<l[i]∧l[i]<=1099511627776) && lx l[i] (l.drop (i+1))):=by
 rw[zD h];rfl
theorem wj (m:Man) (hl:m.segs.length<=1000000):call 181 [.agg m.l] []=some (vb (manB m),[]):=by
 obtain⟨ver,segs,size,sum⟩:=m;unfold manB Man.l;simp only at hl ⊢;apply ae UX rfl;by_cases c1:1<=ver
 ·by_cases c2:ver<=1099511627776
  ·by_cases c3:1<=segs.length
   ·by_cases c4:segs.length<=64
    ·rw[decide_eq_true ⟨c1,c2,c3,c4⟩,Bool.true_and];obtain⟨Z,hZ⟩:∃ Z:V × Hp,Z=(vb (lx (-1) segs && (if segs.head?=some 0 then decide (size=0∧sum=0) else decide (0<size∧size<=65536))),[]):=⟨_,rfl⟩
     rw[<- hZ];refine bd ?_ Hh.eq_1 c1 c2 c3 c4;refine aq (m:=0) (σ:=Nat × Int) (fun t=>segs.length-t.1) (fun t=>t.1<=segs.length∧lx (-1) segs=lx t.2 (segs.drop t.1)) (fun t=>[V.one (.p 0 0),vi t.2,vl (segs.map eI),vi segs.length,vi t.1])
      (fun _=>[.cells [zI ver,.d (.l (segs.map eI)),zI size,zW sum]]) (fun _=>Z) ?_ (0,-1) ⟨zP _,rfl⟩ _ _ ?_
     rotate_left
     ·exact bA
     rintro⟨i,a⟩ ⟨hi,hinc⟩ R hR;simp only at hi hinc ⊢;by_cases c5:i<segs.length
     ·have g1:(segs.map eI)[i]?=some (eI segs[i]):=by simp[c5]
      rw[wW a c5] at hinc;by_cases c6:segs[i]<=a
      ·have hd:decide (a<segs[i]∧segs[i]<=1099511627776)=false:=zF (by omega)
       rw[hd,Bool.false_and] at hinc;rw[hinc,Bool.false_and] at hZ;refine bd ?_ lm.eq_1 g1 @dL @fR c6;rw[hZ]
      ·by_cases c7:segs[i]<=1099511627776
       ·have hd:decide (a<segs[i]∧segs[i]<=1099511627776)=true:=zT (by omega)
        rw[hd,Bool.true_and] at hinc;refine bd ?_ lm.eq_1 g1 @dL @fR c6 c7;exact hR (i+1,segs[i]) (by simp only[];omega) ⟨by simp only[];omega,hinc⟩ _ _ bA
       ·have hd:decide (a<segs[i]∧segs[i]<=1099511627776)=false:=zF (by omega)
        rw[hd,Bool.false_and] at hinc;rw[hinc,Bool.false_and] at hZ;refine bd ?_ lm.eq_1 g1 @dL @fR c6 c7;rw[hZ]
     ·rw[List.drop_of_length_le (by omega)] at hinc
      have hinc2:lx (-1) segs=true:=hinc;rw[hinc2,Bool.true_and] at hZ;have g0:(segs.map eI)[0]?=some (eI segs[0]):=by rw[zG,zE c3];rfl
      have hh:segs.head?=some segs[0]:=by rw[List.head?_eq_getElem?];simp
      rw[hh] at hZ;by_cases z:segs[0]=0
      ·rw[if_pos (by rw[z])] at hZ
       by_cases z2:size=0
       ·by_cases z3:sum=0
        ·refine bd ?_ lm.eq_1 c5 g0 @dL @fR z z2 z3;rw[hZ];simp[z2,z3]
        ·refine bd ?_ lm.eq_1 c5 g0 @dL @fR z z2 z3;rw[hZ];simp[z2,z3]
       ·refine bd ?_ lm.eq_1 c5 g0 @dL @fR z z2;rw[hZ];simp[z2]
      ·rw[if_neg (by simpa using z)] at hZ
       by_cases z2:0<size
       ·by_cases z3:size<=65536
        ·refine bd ?_ lm.eq_1 c5 g0 @dL @fR z z2 z3;rw[hZ];simp[z2,z3]
        ·refine bd ?_ lm.eq_1 c5 g0 @dL @fR z z2 z3;rw[hZ];simp[z2,z3]
       ·refine bd ?_ lm.eq_1 c5 g0 @dL @fR z z2;rw[hZ];simp[z2]
    ·rw[zF (fun h=>c4 h.2.2.2),Bool.false_and]
     refine bd ?_ Hh.eq_1 c1 c2 c3 c4;try simp[trim]
   ·rw[zF (fun h=>c3 h.2.2.1),Bool.false_and]
    refine bd ?_ Hh.eq_1 c1 c2 c3;try simp[trim]
  ·rw[zF (fun h=>c2 h.2.1),Bool.false_and]
   refine bd ?_ Hh.eq_1 c1 c2;try simp[trim]
 ·rw[zF (fun h=>c1 h.1),Bool.false_and]
  refine bd ?_ Hh.eq_1 c1;try simp[trim]
structure Man.ok (m:Man):Prop where
 len:m.segs.length<=1000000
 sum:0<=m.sum∧m.sum<4294967296
theorem iE {m:Man} (h:manB m=true):(1<=m.ver∧m.ver<=1099511627776)∧(1<=m.segs.length∧m.segs.length<=64)∧lx (-1) m.segs=true∧(0<=m.size∧m.size<=65536):=by
 unfold manB at h;simp only[Bool.and_eq_true,decide_eq_true_eq] at h;obtain⟨⟨h1,h2,h3,h4⟩,h5,h6⟩:=h;refine⟨⟨h1,h2⟩,⟨h3,h4⟩,h5,?_⟩;split at h6 <;> simp only[decide_eq_true_eq] at h6 <;> omega
theorem ke:∀ (l:List Int) (a:Int),lx a l=true->∀ n∈l,a<n∧n<=1099511627776
 | [],_,_,n,hn=>by cases hn
 | x::l,a,h,n,hn=>by
  simp only[lx,Bool.and_eq_true,decide_eq_true_eq] at h;rcases List.mem_cons.1 hn with rfl|hn
  ·exact h.1
  ·have:=ke l x h.2 n hn;omega
def bE (l:List Int):Txt:=l.flatMap fun n=>ah n.toNat
theorem lI (a b:List Int):bE (a++b)=bE a++bE b:=List.flatMap_append
theorem x8 {n:Nat} (h:n<9223372036854775808):1<=(ah n).length∧(ah n).length<=9:=⟨gt n,eC h⟩
theorem oc:∀ (l:List Int),(∀ n∈l,0<=n∧n<9223372036854775808)->(bE l).length<=9*l.length
 | [],_=>by simp[bE]
 | n::l,h=>by
  have ih:=oc l (fun x hx=>h x (List.mem_cons_of_mem _ hx))
  have:=(x8 (n:=n.toNat) (by have:=h n (by simp);omega)).2
  have e:bE (n::l)=ah n.toNat++bE l:=rfl;rw[e,zA,List.length_cons];omega
def iA (m:Man):jn:=BitVec.ofNat 32 m.sum.toNat
def bY (m:Man):Txt:=bE (m.ver::(m.segs.length:Int)::m.segs++[m.size])++dN (iA m)
def aT (m:Man):Txt:=aJ (bY m)
theorem kZ {m:Man} (h:manB m=true):1<=(bY m).length∧(bY m).length<=700:=by
 obtain⟨h1,h2,h3,h4⟩:=iE h;have hm:=ke _ _ h3;have hl:=oc (m.ver::(m.segs.length:Int)::m.segs++[m.size]) (by
  intro n hn;simp only[List.cons_append,List.mem_cons,zX,List.not_mem_nil,or_false] at hn;rcases hn with rfl|rfl|hn|rfl
  ·omega
  ·omega
  ·have:=hm n hn;omega
  ·omega)
 unfold bY;rw[zA,d9];simp only[List.cons_append,List.length_cons,zA,List.length_nil] at hl ⊢;omega
def bc (m:Man):Txt × Int:=if manB m=true then(aT m,0) else([],1)
theorem Ba (m:Man) (hm:m.ok):call 165 [.agg m.l] []=some (.tup [(false,[.d (.s (bc m).1)]),(false,[.d (.i .i64 (bc m).2)])],[]):=by
 have hr:=wj m hm.len;unfold bc;cases c:manB m with
 | false =>
  rw[c] at hr;apply ae Rz rfl;simp only[Man.l] at hr;refine bd ?_ Qt.eq_1 @Man.l.eq_1 hr;try simp[trim]
 | true =>
  rw[c] at hr;have hb:=kZ c;obtain⟨h1,h2,h3,h4⟩:=iE c;have hmem:=ke _ _ h3;have hsum:=hm.sum;have hf:call 162 [.one (zW m.sum)] []=some (vs (dN (iA m)),[]):=by
   have:=rR (iA m);have e:(((iA m).toNat:Nat):Int)=m.sum:=by unfold iA;simp;omega
   rw[e] at this;exact this
  have hp:=oG (bY m) (by omega)
  unfold AL at hp;rw[if_pos ⟨hb.1,by omega⟩] at hp
  have q1:=Ft (n:=m.ver) (by omega) (by omega)
  have q2:=Ft (n:=(m.segs.length:Int)) (by omega) (by omega)
  rw[Int.toNat_natCast] at q2;have q3:=Ft (n:=m.size) (by omega) (by omega)
  have l1:=(x8 (n:=m.ver.toNat) (by omega)).2
  have l2:=(x8 (n:=m.segs.length) (by omega)).2
  have l3:=(x8 (n:=m.size.toNat) (by omega)).2
  unfold aT;have hbd:bY m=((ah m.ver.toNat++ah m.segs.length)++bE m.segs++ah m.size.toNat)++dN (iA m):=by
   unfold bY;simp[bE,List.append_assoc]
  rw[hbd] at hp hb ⊢;have h4l:=d9 (iA m);generalize dN (iA m)=F4 at *;obtain⟨ver,segs,size,sum⟩:=m;simp only[Man.l] at *;apply ae Rz rfl;obtain⟨W,hW⟩:∃ W:Txt,W=aJ (((ah ver.toNat++ah segs.length)++bE segs++ah size.toNat)++F4):=⟨_,rfl⟩;rw[<- hW] at hp ⊢;have l12:(ah ver.toNat).length+(ah segs.length).length<=9223372036854775807:=by omega
  refine bd ?_ Qt.eq_1 hr q1 q2 l12;refine aq (m:=0) (σ:=Nat) (fun i=>segs.length-i) (fun i=>i<=segs.length) (fun i=>[V.one (.p 0 0),vs ((ah ver.toNat++ah segs.length)++bE (segs.take i)),vl (segs.map eI),vi segs.length,vi i])
   (fun _=>[.cells [zI ver,.d (.l (segs.map eI)),zI size,zW sum]]) (fun _=>(V.tup [(false,[zS W]),(false,[zI 0])],[])) ?_ 0 (zP _) _ _ ?_
  rotate_left
  ·have e:(ah ver.toNat++ah segs.length)++bE (segs.take 0)=ah ver.toNat++ah segs.length:=by simp[bE]
   rw[e];exact bA
  intro i hi R hR;have hln:=oc (segs.take i) (fun n hn=>by have:=hmem n (zZ hn);omega)
  have hti:(segs.take i).length=i:=by simp;omega
  rw[hti] at hln;by_cases c5:i<segs.length
  ·have g1:(segs.map eI)[i]?=some (eI segs[i]):=by simp[c5]
   have hmi:=hmem _ (zN c5);have q4:=Ft (n:=segs[i]) (by omega) (by omega)
   have l4:=(x8 (n:=segs[i].toNat) (by omega)).2
   have hR':=hR (i+1) (by omega) (by omega)
   have e1:bE (segs.take (i+1))=bE (segs.take i)++ah segs[i].toNat:=by
    rw[zO c5,lI];simp[bE]
   rw[e1,<- List.append_assoc] at hR';obtain⟨P,hP⟩:∃ P:Txt,P=(ah ver.toNat++ah segs.length)++bE (segs.take i):=⟨_,rfl⟩;have hPl:P.length+(ah segs[i].toNat).length<=9223372036854775807:=by rw[hP,zA,zA];omega
   rw[<- hP] at hR' ⊢;refine bd ?_ Dw.eq_1 g1 @dL @fR q4 hPl;exact hR' _ _ bA
  ·have hin:i=segs.length:=by omega
   subst hin;rw[List.take_length] at hln ⊢;obtain⟨P,hP⟩:∃ P:Txt,P=(ah ver.toNat++ah segs.length)++bE segs:=⟨_,rfl⟩;have hPl:P.length+(ah size.toNat).length<=9223372036854775807:=by rw[hP,zA,zA];omega
   have hPl2:(P++ah size.toNat).length+F4.length<=9223372036854775807:=by rw[hP,zA,zA,zA];omega
   rw[<- hP] at hp ⊢;obtain⟨P2,hP2⟩:∃ P2:Txt,P2=P++ah size.toNat:=⟨_,rfl⟩;rw[<- hP2] at hp hPl2;(simp(disch:=first|decide|omega|(intros;exact aP rfl rfl)|simp only[am]) only[Dw,q3,hPl,<- hP2,hPl2,hf,hp,go_sem,seval,aO])
   try simp[trim]
theorem oh {l:List Fil} (hs:srt l) {n:Txt} (h:bS l n=false):∀ f∈l,f.name≠n:=by
 intro f hf he;obtain⟨i,hi,rfl⟩:=zJ hf;have h1:¬ i<au l n:=by
  rw[<- jq hs n i hi,he,ml];decide
 have h2:i=au l n:=by
  rcases Nat.lt_or_ge (au l n) i with h3|h3
  ·have hp:au l n<l.length:=by omega
   have h4:=(List.pairwise_iff_getElem.1 hs) (au l n) i hp hi h3;rw[he] at h4;have:=(jq hs n _ hp).1 h4;omega
  ·omega
 unfold bS at h;rw[<- h2,zE hi] at h;simp[he] at h
theorem Az {l:List Fil} (hs:srt l) {f:Fil} (hf:f∈l):bS l f.name=true:=by
 cases h:bS l f.name with
 | true=>rfl
 | false=>exact absurd rfl (oh hs h f hf)
theorem KZ {l:List Fil} (hs:srt l) (i:Nat) (hi:i<l.length):au l l[i].name=i:=by
 have h:=Az hs (zN hi);obtain⟨hp,he⟩:=cq h;rcases Nat.lt_trichotomy (au l l[i].name) i with h1|h1|h1
 ·have:=(List.pairwise_iff_getElem.1 hs) _ _ hp hi h1;rw[he,ml] at this;cases this
 ·exact h1
 ·have:=(List.pairwise_iff_getElem.1 hs) _ _ hi hp h1;rw[he,ml] at this;cases this
theorem jK {l l':List Fil} (h:l'.map Fil.name=l.map Fil.name) (hs:srt l):srt l':=by
 have h1:(l.map Fil.name).Pairwise fun a b=>bl a b=true:=List.pairwise_map.2 hs
 rw[<- h] at h1;exact List.pairwise_map.1 h1
theorem nV (l:List Fil) (k:Nat) (g:Fil->Fil) (hg:∀ f,(g f).name=f.name):(ou l k g).map Fil.name=l.map Fil.name:=by
 unfold ou;split
 ·rename_i f hf;obtain⟨h,rfl⟩:=List.getElem?_eq_some_iff.1 hf;rw[List.map_set,hg];have e:(l[k]).name=(l.map Fil.name)[k]'(by simpa using h):=by simp
  rw[e,List.set_getElem_self]
 ·rfl
theorem yn {l:List Fil} (hs:srt l) (f:Fil) (h:bS l f.name=false):srt (hJ l (au l f.name) f):=by
 have hf:=oh hs h;have h1:∀ x∈l.take (au l f.name),bl x.name f.name=true:=by
  intro x hx;obtain⟨i,hi,rfl⟩:=zJ hx;rw[zQ] at hi;rw[List.getElem_take];exact(jq hs f.name i (by omega)).2 (by omega)
 have h2:∀ x∈l.drop (au l f.name),bl f.name x.name=true:=by
  intro x hx;obtain⟨i,hi,rfl⟩:=zJ hx;rw[zH] at hi;rw[List.getElem_drop];have h3:¬ bl l[au l f.name+i].name f.name=true:=fun h=>by
   have:=(jq hs f.name _ (by omega)).1 h;omega
  rcases yr l[au l f.name+i].name f.name with h4|h4|h4
  ·exact absurd h4 h3
  ·exact absurd h4 (hf _ (zN _))
  ·exact h4
 have hsp:srt (l.take (au l f.name)++l.drop (au l f.name)):=by rw[zY];exact hs
 unfold srt at hsp;rw[List.pairwise_append] at hsp;unfold hJ srt;rw[List.pairwise_append];refine⟨hsp.1,List.pairwise_cons.2 ⟨h2,hsp.2.1⟩,fun a ha b hb=>?_⟩
 rcases List.mem_cons.1 hb with rfl|hb
 ·exact h1 a ha
 ·exact hsp.2.2 a ha b hb
theorem M4 {l:List Fil} (hs:srt l) (f:Fil) (h:bS l f.name=true):srt (l.set (au l f.name) f):=by
 obtain⟨hp,he⟩:=cq h;refine jK ?_ hs;rw[List.map_set];generalize au l f.name=p at hp he;rw[<- he];have e:l[p].name=(l.map Fil.name)[p]'(by simpa using hp):=by simp
 rw[e,List.set_getElem_self]
theorem Ev {l:List Fil} (hs:srt l) (f:Fil):srt (jm l f):=by
 unfold jm;cases h:bS l f.name with
 | true=>rw[if_pos rfl];exact M4 hs f h
 | false=>rw[if_neg (by simp)];exact yn hs f h
structure okN (k u:Nat) (d:Dsk):Prop where
 len:d.files.length<=k
 srt:srt d.files
 left:0<=d.left∧d.left<9223372036854775808
 cap:0<=d.cap∧d.cap<9223372036854775808
 used:usedF d.files<=u
theorem okN.ok {k u:Nat} {d:Dsk} (h:okN k u d) (hk:k<=1000000) (hu:u<=1000000000000):d.ok :=
 ⟨Nat.le_trans h.len hk,h.srt,h.left,h.cap,Nat.le_trans h.used hu⟩
theorem okN.up {k u k' u':Nat} {d:Dsk} (h:okN k u d) (hk:k<=k') (hu:u<=u'):okN k' u' d :=
 ⟨Nat.le_trans h.len hk,h.srt,h.left,h.cap,Nat.le_trans h.used hu⟩
theorem qU {k u:Nat} {d:Dsk} (h:okN k u d) {r:List Fil × Int} (hr:r.2=0->r.1.length<=k∧Go.Proofs.YtgoifbjgmgbihaaGreat.srt r.1∧usedF r.1<=u):okN k u (ai d r).1:=by
 obtain⟨a1,a2,a3,a4,a5⟩:=h;unfold ai;split
 ·exact⟨a1,a2,a3,a4,a5⟩
 ·split
  ·exact⟨a1,a2,a3,a4,a5⟩
  ·rename_i h2;obtain⟨b1,b2,b3⟩:=hr (by simpa using h2)
   split
   ·split
    ·exact⟨a1,a2,a3,a4,a5⟩
    ·rename_i h4;exact⟨b1,b2,by simp only[];omega,a4,b3⟩
   ·exact⟨b1,b2,a3,a4,b3⟩
def tV (s:Dsk × Int) (f:Dsk->Dsk × Int):Dsk × Int:=if s.2=0 then f s.1 else s
def bR (n:Txt) (s:Dsk × Int):Dsk × Int:=tV s fun d=>ai d (bB d.files n)
def dH (n:Txt) (s:Dsk × Int):Dsk × Int:=tV s fun d=>ai d (bN d.files n)
def fi (n:Txt) (s:Dsk × Int):Dsk × Int:=tV s fun d=>ai d (ch d.files n)
def fL (n x:Txt) (s:Dsk × Int):Dsk × Int:=tV s fun d=>ai d (bM d.files d.cap n x)
def wb (n t:Txt) (s:Dsk × Int):Dsk × Int:=tV s fun d=>ai d (i8 d.files n t)
def cV (n:Txt) (s:Dsk × Int):Dsk × Int:=if s.2≠9 then s else if(dH n (s.1,0)).2=0 then((dH n (s.1,0)).1,9) else dH n (s.1,0)
theorem AD (l:List Fil) (k:Nat) (f:Fil):usedF (hJ l k f)=usedF l+f.data.length:=by
 have e:hJ l k f=l.take k++([f]++l.drop k):=rfl;rw[e,cW,cW,gM];have:usedF l=usedF (l.take k)+usedF (l.drop k):=by rw[<- cW,zY]
 omega
theorem pF (l:List Fil) (k:Nat) (h:k<l.length) (f:Fil):usedF (l.set k f)+l[k].data.length=usedF l+f.data.length:=by
 have e:l.set k f=l.take k++([f]++l.drop (k+1)):=by rw[List.set_eq_take_append_cons_drop,if_pos h];rfl
 have e2:l=l.take k++([l[k]]++l.drop (k+1)):=by rw[List.singleton_append,<- zD h,zY]
 have:usedF l=usedF (l.take k)+(l[k].data.length+usedF (l.drop (k+1))):=by rw[<- gM l[k],<- cW,<- cW,<- e2]
 rw[e,cW,cW,gM];omega
theorem AJ (l:List Fil) (k:Nat) (h:k<l.length):usedF (fI l k)+l[k].data.length=usedF l:=by
 have e2:l=l.take k++([l[k]]++l.drop (k+1)):=by rw[List.singleton_append,<- zD h,zY]
 have:usedF l=usedF (l.take k)+(l[k].data.length+usedF (l.drop (k+1))):=by rw[<- gM l[k],<- cW,<- cW,<- e2]
 unfold fI;rw[cW];omega
theorem uv {k u:Nat} {s:Dsk × Int} {f:Dsk->Dsk × Int} (h:okN k u s.1) (hf:okN k u (f s.1).1):okN k u (tV s f).1:=by
 unfold tV;split
 ·exact hf
 ·exact h
theorem fG {k u:Nat} {s:Dsk × Int} (h:okN k u s.1) (n:Txt):okN (k+1) u (bR n s).1:=by
 refine uv (h.up (by omega) (Nat.le_refl _)) (qU (h.up (by omega) (Nat.le_refl _)) fun h0=>?_)
 unfold bB at h0 ⊢;split at h0
 ·rename_i h1;split at h0
  ·cases h0
  ·rename_i h2;rw[if_pos h1,if_neg h2];refine⟨by rw[yi _ _ _ (pm _ _)];have:=h.len;omega,yn h.srt ⟨n,[],0⟩ (by simpa using h2),?_⟩
   rw[AD];exact h.used
 ·cases h0
theorem dX {k u:Nat} {s:Dsk × Int} (h:okN k u s.1) (n:Txt):okN k u (dH n s).1:=by
 refine uv h (qU h fun h0=>?_)
 unfold bN at h0 ⊢;split at h0
 ·rename_i h1;rw[if_pos h1];obtain⟨hp,_⟩:=cq h1;refine⟨by rw[qA _ _ hp];have:=h.len;omega,mG h.srt _,?_⟩
  have h3:=AJ _ _ hp;have h4:=h.used;show usedF (fI s.1.files (au s.1.files n))<=u;omega
 ·cases h0
theorem lw {k u:Nat} {s:Dsk × Int} (h:okN k u s.1) (n:Txt):okN k u (fi n s).1:=by
 refine uv h (qU h fun h0=>?_)
 unfold ch at h0 ⊢;split at h0
 ·rename_i h1;rw[if_pos h1];obtain⟨hp,_⟩:=cq h1;refine⟨by rw[yk];exact h.len,jK (nV _ _ _ fun _=>rfl) h.srt,?_⟩
  rw[ji hp];have h3:=pF _ _ hp { s.1.files[au s.1.files n] with sure:=s.1.files[au s.1.files n].data.length }
  have h4:=h.used;simp only[] at h3 ⊢;omega
 ·cases h0
theorem jM {k u:Nat} {s:Dsk × Int} (h:okN k u s.1) (n x:Txt):okN k (u+x.length) (fL n x s).1:=by
 refine uv (h.up (Nat.le_refl _) (by omega)) (qU (h.up (Nat.le_refl _) (by omega)) fun h0=>?_)
 unfold bM at h0 ⊢;split at h0
 ·rename_i h1;split at h0
  ·cases h0
  ·rename_i h2;rw[if_pos h1,if_neg h2];obtain⟨hp,_⟩:=cq h1;refine⟨by rw[yk];exact h.len,jK (nV _ _ _ fun _=>rfl) h.srt,?_⟩
   rw[ji hp];have h3:=pF _ _ hp { s.1.files[au s.1.files n] with data:=s.1.files[au s.1.files n].data++x }
   have h4:=h.used;simp only[zA] at h3 ⊢;omega
 ·cases h0
theorem O7 {k u:Nat} {s:Dsk × Int} (h:okN k u s.1) (n t:Txt):okN k u (wb n t s).1:=by
 refine uv h (qU h fun h0=>?_)
 unfold i8 at h0 ⊢;split at h0
 ·rename_i h1;split at h0
  ·rename_i h2;rw[if_pos h1,if_pos h2];obtain⟨hp,_⟩:=cq h1;have hd:(eb s.1.files (au s.1.files n) t).data=s.1.files[au s.1.files n].data:=by unfold eb;rw[zE hp]
   have hu:=AJ _ _ hp;have hul:=h.used;have hln:=h.len;have hdl:=qA _ _ hp;refine⟨Nat.le_trans (Gh _ _) (by rw[hdl];omega),Ev (mG h.srt _) _,?_⟩
   show usedF (jm (fI s.1.files (au s.1.files n)) (eb s.1.files (au s.1.files n) t))<=u;unfold jm;split
   ·rename_i h3;obtain⟨hp3,_⟩:=cq h3;have h5:=pF _ _ hp3 (eb s.1.files (au s.1.files n) t);rw[hd] at h5;omega
   ·rw[AD,hd];omega
  ·cases h0
 ·cases h0
theorem mb {k u:Nat} {s:Dsk × Int} (h:okN k u s.1) (n:Txt):okN k u (cV n s).1:=by
 unfold cV;split
 ·exact h
 ·split
  ·exact dX (s:=(s.1,0)) h n
  ·exact dX (s:=(s.1,0)) h n
def fK (s:Dsk × Int):Box:=.cells (s.1.l++[zI s.2])
theorem Tl (s:Dsk × Int) (g:Nat) (x:Txt) (f:Dsk->Dsk × Int) (hg:s.2=0->call g [.agg s.1.l,.one (.p 0 0)] [.cells [zS x]]=some (aK (f s.1),[.cells [zS x]])) :
  call 163 [.one (.p 0 0),.one (.f g [1])] [fK s,.cells [zS x]]=some (.tup [],[fK (tV s f),.cells [zS x]]):=by
 apply ae SF rfl;obtain⟨d,e⟩:=s;unfold tV;simp only at hg ⊢;by_cases h:e=0
 ·subst h;have h1:∀ D:Box,ak call g [.agg d.l,.one (.p 1 0)] [D,.cells [zS x]]=some (aK (f d),[D,.cells [zS x]]):=fun D =>
   aF (ids:=[1]) rfl rfl rfl (hg rfl) rfl
  generalize f d=r at *;obtain⟨⟨f2,cp2,ar2,lf2,dn2⟩,e2⟩:=r;obtain⟨fl,cp,ar,lf,dn⟩:=d;simp only[aK,Dsk.l] at h1;(simp(disch:=first|decide|omega|(intros;exact aP rfl rfl)|simp only[am]) only[fU,Im,fK,Dsk.l,↓h1,go_sem,seval,aO])
  simp[zR]
 ·obtain⟨fl,cp,ar,lf,dn⟩:=d;refine bh ?_ Im.eq_1 @fK.eq_1 @Dsk.l.eq_1 h;simp[zR,h]
theorem Wp (s:Dsk × Int) (g:Nat) (f:Dsk->Dsk × Int) (hg:s.2=0->call g [.agg s.1.l] []=some (aK (f s.1),[])) :
  call 163 [.one (.p 0 0),.one (.f g [])] [fK s]=some (.tup [],[fK (tV s f)]):=by
 apply ae SF rfl;obtain⟨d,e⟩:=s;unfold tV;simp only at hg ⊢;by_cases h:e=0
 ·subst h;have h1:∀ H:Hp,ak call g [.agg d.l] H=some (aK (f d),H):=fun H=>callIso_pure rfl (hg rfl) rfl
  generalize f d=r at *;obtain⟨⟨f2,cp2,ar2,lf2,dn2⟩,e2⟩:=r;obtain⟨fl,cp,ar,lf,dn⟩:=d;simp only[aK,Dsk.l] at h1;(simp(disch:=first|decide|omega|(intros;exact aP rfl rfl)|simp only[am]) only[fU,Im,fK,Dsk.l,↓h1,go_sem,seval,aO])
  simp[zR]
 ·obtain⟨fl,cp,ar,lf,dn⟩:=d;refine bh ?_ Im.eq_1 @fK.eq_1 @Dsk.l.eq_1 h;simp[zR,h]
theorem NP (d:Dsk) (hd:d.ok) (n:Txt):call 164 [.agg d.l,.one (.p 0 0)] [.cells [zS n]]=some (aK (ai d (bB d.files n)),[.cells [zS n]]):=by
 apply ae TZ rfl;have h:=lc d hd n;generalize ai d (bB d.files n)=r at *;obtain⟨⟨f2,cp2,ar2,lf2,dn2⟩,e2⟩:=r;obtain⟨fl,cp,ar,lf,dn⟩:=d;simp only[aK,Dsk.l] at h ⊢;refine bh ?_ SX.eq_1 h;simp[zR]
theorem L4 (d:Dsk) (hd:d.ok) (n:Txt):call 182 [.agg d.l,.one (.p 0 0)] [.cells [zS n]]=some (aK (ai d (bN d.files n)),[.cells [zS n]]):=by
 apply ae Vn rfl;have h:=gB d hd n;generalize ai d (bN d.files n)=r at *;obtain⟨⟨f2,cp2,ar2,lf2,dn2⟩,e2⟩:=r;obtain⟨fl,cp,ar,lf,dn⟩:=d;simp only[aK,Dsk.l] at h ⊢;refine bh ?_ Sx.eq_1 h;simp[zR]
theorem Rl (d:Dsk) (hd:d.ok) (n:Txt):call 183 [.agg d.l,.one (.p 0 0)] [.cells [zS n]]=some (aK (ai d (ch d.files n)),[.cells [zS n]]):=by
 apply ae U8 rfl;have h:=oa d hd n;generalize ai d (ch d.files n)=r at *;obtain⟨⟨f2,cp2,ar2,lf2,dn2⟩,e2⟩:=r;obtain⟨fl,cp,ar,lf,dn⟩:=d;simp only[aK,Dsk.l] at h ⊢;refine bh ?_ RE.eq_1 h;simp[zR]
theorem PK (d:Dsk) (hd:d.ok) (x:Txt) (hx:x.length<=1000000000000):call 167 [.agg d.l,.one (.p 0 0)] [.cells [zS x]]=some (aK (ai d (bM d.files d.cap [110] x)),[.cells [zS x]]):=by
 apply ae Tx rfl;have h:=kW d hd [110] x hx;generalize ai d (bM d.files d.cap [110] x)=r at *;obtain⟨⟨f2,cp2,ar2,lf2,dn2⟩,e2⟩:=r;obtain⟨fl,cp,ar,lf,dn⟩:=d;simp only[aK,Dsk.l] at h ⊢;refine bh ?_ Re.eq_1 h;simp[zR]
theorem PG (d:Dsk) (hd:d.ok):call 169 [.agg d.l] []=some (aK (ai d (i8 d.files [110] [109])),[]):=by
 apply ae Vp rfl;have h:=Bv d hd [110] [109];generalize ai d (i8 d.files [110] [109])=r at *;obtain⟨⟨f2,cp2,ar2,lf2,dn2⟩,e2⟩:=r;obtain⟨fl,cp,ar,lf,dn⟩:=d;simp only[aK,Dsk.l] at h ⊢;refine bh ?_ RG.eq_1 h;try simp[zR]
theorem qt (s:Dsk × Int) (hd:s.1.ok) (n:Txt):call 137 [.one (.p 0 0),vs n] [fK s]=some (.tup [],[fK (bR n s)]):=by
 apply ae U4 rfl;have h:ak call 163 [.one (.p 0 0),.one (.f 164 [1])] [fK s,.cells [zS n]]=some (.tup [],[fK (bR n s),.cells [zS n]]) :=
  aF (ids:=[0,1]) rfl rfl rfl (Tl s _ n _ fun _=>NP s.1 hd n) rfl
 (simp(disch:=first|decide|omega|(intros;exact aP rfl rfl)|simp only[am]) only[fU,Sa,↓h,go_sem,seval,aO])
 simp[zR,fK,Dsk.l]
theorem pJ (s:Dsk × Int) (hd:s.1.ok) (n:Txt):call 166 [.one (.p 0 0),vs n] [fK s]=some (.tup [],[fK (dH n s)]):=by
 apply ae Ts rfl;have h:ak call 163 [.one (.p 0 0),.one (.f 182 [1])] [fK s,.cells [zS n]]=some (.tup [],[fK (dH n s),.cells [zS n]]) :=
  aF (ids:=[0,1]) rfl rfl rfl (Tl s _ n _ fun _=>L4 s.1 hd n) rfl
 (simp(disch:=first|decide|omega|(intros;exact aP rfl rfl)|simp only[am]) only[fU,Ro,↓h,go_sem,seval,aO])
 simp[zR,fK,Dsk.l]
theorem CU (s:Dsk × Int) (hd:s.1.ok) (n:Txt):call 168 [.one (.p 0 0),vs n] [fK s]=some (.tup [],[fK (fi n s)]):=by
 apply ae T9 rfl;have h:ak call 163 [.one (.p 0 0),.one (.f 183 [1])] [fK s,.cells [zS n]]=some (.tup [],[fK (fi n s),.cells [zS n]]) :=
  aF (ids:=[0,1]) rfl rfl rfl (Tl s _ n _ fun _=>Rl s.1 hd n) rfl
 (simp(disch:=first|decide|omega|(intros;exact aP rfl rfl)|simp only[am]) only[fU,Ra,↓h,go_sem,seval,aO])
 simp[zR,fK,Dsk.l]
theorem qJ (s:Dsk × Int) (hd:s.1.ok) (n:Txt):call 139 [.one (.p 0 0),vs n] [fK s]=some (.tup [],[fK (cV n s)]):=by
 apply ae Uo rfl;obtain⟨d,e⟩:=s;unfold cV;simp only at hd ⊢;by_cases h9:e=9
 ·subst h9;have h:ak call 166 [.one (.p 0 0),vs n] [fK (d,0)]=some (.tup [],[fK (dH n (d,0))]) :=
   aF (ids:=[0]) rfl rfl rfl (pJ (d,0) hd n) rfl
  generalize dH n (d,0)=r at *;obtain⟨⟨f2,cp2,ar2,lf2,dn2⟩,e2⟩:=r;obtain⟨fl,cp,ar,lf,dn⟩:=d;simp only[fK,Dsk.l,List.cons_append,List.nil_append] at h;by_cases h0:e2=0
  ·subst h0;(simp(disch:=first|decide|omega|(intros;exact aP rfl rfl)|simp only[am]) only[fU,Np,fK,Dsk.l,↓h,go_sem,seval,aO])
   simp[zR]
  ·(simp(disch:=first|decide|omega|(intros;exact aP rfl rfl)|simp only[am]) only[fU,Np,fK,Dsk.l,↓h,h0,go_sem,seval,aO])
   simp[zR,h0]
 ·obtain⟨fl,cp,ar,lf,dn⟩:=d;refine bh ?_ Np.eq_1 @fK.eq_1 @Dsk.l.eq_1 h9;simp[zR,h9]
def bT (m:Man) (s:Dsk × Int):Dsk × Int :=
 let s1:=if s.2=0 then(s.1,(bc m).2) else s
 let s2:=if(az s1.1.files [110]).2=0 then dH [110] s1 else s1
 let s3:=bR [110] s2
 if s3.2≠0 then s3 else wb [110] [109] (fi [110] (cV [110] (fL [110] (bc m).1 s3)))
theorem mB (m:Man):(bc m).1.length<=800:=by
 unfold bc;split
 ·rename_i h;have:=kZ h;unfold aT;have h9:=eC (n:=(bY m).length) (by omega)
  show(aJ (bY m)).length<=800;rw[gu];omega
 ·simp
theorem iS {k u:Nat} {s:Dsk × Int} (h:okN k u s.1) (m:Man):okN (k+1) (u+800) (bT m s).1:=by
 unfold bT;have h1:okN k u (if s.2=0 then(s.1,(bc m).2) else s).1:=by split <;> exact h
 generalize (if s.2=0 then(s.1,(bc m).2) else s)=s1 at *
 have h2:okN k u (if(az s1.1.files [110]).2=0 then dH [110] s1 else s1).1:=by
  split
  ·exact dX h1 _
  ·exact h1
 simp only[];generalize (if(az s1.1.files [110]).2=0 then dH [110] s1 else s1)=s2 at *
 have h3:=fG h2 [110];split
 ·exact h3.up (Nat.le_refl _) (by omega)
 ·exact O7 (lw (mb ((jM h3 [110] (bc m).1).up (Nat.le_refl _) (by have:=mB m;omega)) _) _) _ _
theorem FQ (d:Dsk) (e:Int) (te:Int) (tx:Txt) {k u:Nat} (hd:okN k u d) (hk:k<=900000) (hu:u<=900000000000) (htx:tx.length<=800) (ver size sum:Int) (segs:List Int)
  (hp:call 165 [.agg [zI ver,.d (.l (segs.map eI)),zI size,zW sum]] []=some (.tup [(false,[zS tx]),(false,[zI te])],[]))
  (s1:Dsk × Int) (hs1:s1=(if e=0 then(d,te) else(d,e))) (s2:Dsk × Int) (hs2:s2=(if(az s1.1.files [110]).2=0 then dH [110] s1 else s1)) :
  call 138 [.one (.p 0 0),.agg [zI ver,.d (.l (segs.map eI)),zI size,zW sum]] [fK (d,e)] =
   some (.tup [],[fK (if(bR [110] s2).2≠0 then bR [110] s2 else wb [110] [109] (fi [110] (cV [110] (fL [110] tx (bR [110] s2)))))]):=by
 have k1:okN k u s1.1:=by rw[hs1];split <;> exact hd
 have k2:okN k u s2.1:=by
  rw[hs2];split
  ·exact dX k1 _
  ·exact k1
 have k3:=fG k2 [110];obtain⟨s3,hs3⟩:∃ s3,s3=bR [110] s2:=⟨_,rfl⟩;have k4:=jM k3 [110] tx;rw[<- hs3] at k3 k4 ⊢;obtain⟨s4,hs4⟩:∃ s4,s4=fL [110] tx s3:=⟨_,rfl⟩;rw[<- hs4] at k4 ⊢;have k5:=mb k4 [110];obtain⟨s5,hs5⟩:∃ s5,s5=cV [110] s4:=⟨_,rfl⟩;rw[<- hs5] at k5 ⊢;have k6:=lw k5 [110];obtain⟨s6,hs6⟩:∃ s6,s6=fi [110] s5:=⟨_,rfl⟩;rw[<- hs6] at k6 ⊢;obtain⟨s7,hs7⟩:∃ s7,s7=wb [110] [109] s6:=⟨_,rfl⟩;rw[<- hs7];have hr:=sm s1.1 (Nat.le_trans k1.len (by omega)) k1.srt [110]
 have q1:∀ M T:Box,ak call 166 [.one (.p 0 0),vs [110]] [fK s1,M,T]=some (.tup [],[fK (dH [110] s1),M,T]):=fun M T=>aF (ids:=[0]) rfl rfl rfl (pJ s1 (k1.ok (by omega) (by omega)) _) rfl
 have q2:∀ M T:Box,ak call 137 [.one (.p 0 0),vs [110]] [fK s2,M,T]=some (.tup [],[fK s3,M,T]):=fun M T=>by rw[hs3];exact aF (ids:=[0]) rfl rfl rfl (qt s2 (k2.ok (by omega) (by omega)) _) rfl
 have q3:∀ M:Box,ak call 163 [.one (.p 0 0),.one (.f 167 [2])] [fK s3,M,.cells [zS tx]]=some (.tup [],[fK s4,M,.cells [zS tx]]):=fun M=>by
  rw[hs4];exact aF (ids:=[0,2]) rfl rfl rfl (Tl s3 _ tx _ fun _=>PK s3.1 (k3.ok (by omega) (by omega)) tx (by omega)) rfl
 have q4:∀ M T:Box,ak call 139 [.one (.p 0 0),vs [110]] [fK s4,M,T]=some (.tup [],[fK s5,M,T]):=fun M T=>by rw[hs5];exact aF (ids:=[0]) rfl rfl rfl (qJ s4 (k4.ok (by omega) (by omega)) _) rfl
 have q5:∀ M T:Box,ak call 168 [.one (.p 0 0),vs [110]] [fK s5,M,T]=some (.tup [],[fK s6,M,T]):=fun M T=>by rw[hs6];exact aF (ids:=[0]) rfl rfl rfl (CU s5 (k5.ok (by omega) (by omega)) _) rfl
 have q6:∀ M T:Box,ak call 163 [.one (.p 0 0),.one (.f 169 [])] [fK s6,M,T]=some (.tup [],[fK s7,M,T]):=fun M T=>by
  rw[hs7];exact aF (ids:=[0]) rfl rfl rfl (Wp s6 _ _ fun _=>PG s6.1 (k6.ok (by omega) (by omega))) rfl
 clear hs3 hs4 hs5 hs6 hs7 k2 k3 k4 k5 k6;obtain⟨d3,e3⟩:=s3;apply ae TQ rfl;by_cases he:e=0
 ·rw[if_pos he] at hs1;subst hs1;subst he;by_cases hrd:(az d.files [110]).2=0
  ·simp only[] at hs2 hr;rw[if_pos hrd] at hs2;rw[<- hs2] at q1;rw[hrd] at hr;simp only[fK,Dsk.l,List.cons_append,List.nil_append] at hr q1 q2 q3 q4 q5 q6;by_cases h3:e3=0
   ·subst h3;(simp(disch:=first|decide|omega|(intros;exact aP rfl rfl)|simp only[am]) only[fU,yX,fK,Dsk.l,hp,hr,↓q1,↓q2,↓q3,↓q4,↓q5,↓q6,go_sem,seval,aO])
    try simp[zR,fK,Dsk.l]
   ·(simp(disch:=first|decide|omega|(intros;exact aP rfl rfl)|simp only[am]) only[fU,yX,fK,Dsk.l,hp,hr,↓q1,↓q2,↓q3,↓q4,↓q5,↓q6,h3,go_sem,seval,aO])
    try simp[zR,fK,Dsk.l,h3]
  ·simp only[] at hs2 hr;rw[if_neg hrd] at hs2;subst hs2;simp only[fK,Dsk.l,List.cons_append,List.nil_append] at hr q1 q2 q3 q4 q5 q6;by_cases h3:e3=0
   ·subst h3;(simp(disch:=first|decide|omega|(intros;exact aP rfl rfl)|simp only[am]) only[fU,yX,fK,Dsk.l,hp,hr,hrd,↓q2,↓q3,↓q4,↓q5,↓q6,go_sem,seval,aO])
    try simp[zR,fK,Dsk.l]
   ·(simp(disch:=first|decide|omega|(intros;exact aP rfl rfl)|simp only[am]) only[fU,yX,fK,Dsk.l,hp,hr,hrd,↓q2,↓q3,↓q4,↓q5,↓q6,h3,go_sem,seval,aO])
    try simp[zR,fK,Dsk.l,h3]
 ·rw[if_neg he] at hs1;subst hs1;by_cases hrd:(az d.files [110]).2=0
  ·simp only[] at hs2 hr;rw[if_pos hrd] at hs2;rw[<- hs2] at q1;rw[hrd] at hr;simp only[fK,Dsk.l,List.cons_append,List.nil_append] at hr q1 q2 q3 q4 q5 q6;by_cases h3:e3=0
   ·subst h3;(simp(disch:=first|decide|omega|(intros;exact aP rfl rfl)|simp only[am]) only[fU,yX,fK,Dsk.l,hp,hr,↓q1,↓q2,↓q3,↓q4,↓q5,↓q6,go_sem,seval,aO])
    try simp[zR,fK,Dsk.l]
   ·(simp(disch:=first|decide|omega|(intros;exact aP rfl rfl)|simp only[am]) only[fU,yX,fK,Dsk.l,hp,hr,↓q1,↓q2,↓q3,↓q4,↓q5,↓q6,h3,go_sem,seval,aO])
    try simp[zR,fK,Dsk.l,h3]
  ·simp only[] at hs2 hr;rw[if_neg hrd] at hs2;subst hs2;simp only[fK,Dsk.l,List.cons_append,List.nil_append] at hr q1 q2 q3 q4 q5 q6;by_cases h3:e3=0
   ·subst h3;(simp(disch:=first|decide|omega|(intros;exact aP rfl rfl)|simp only[am]) only[fU,yX,fK,Dsk.l,hp,hr,hrd,↓q2,↓q3,↓q4,↓q5,↓q6,go_sem,seval,aO])
    try simp[zR,fK,Dsk.l]
   ·(simp(disch:=first|decide|omega|(intros;exact aP rfl rfl)|simp only[am]) only[fU,yX,fK,Dsk.l,hp,hr,hrd,↓q2,↓q3,↓q4,↓q5,↓q6,h3,go_sem,seval,aO])
    try simp[zR,fK,Dsk.l,h3]
theorem uw (s:Dsk × Int) {k u:Nat} (hd:okN k u s.1) (hk:k<=900000) (hu:u<=900000000000) (m:Man) (hm:m.ok):call 138 [.one (.p 0 0),.agg m.l] [fK s]=some (.tup [],[fK (bT m s)]):=by
 have hp:=Ba m hm;have hpl:=mB m;obtain⟨d,e⟩:=s;have h:=FQ d e (bc m).2 (bc m).1 hd hk hu hpl m.ver m.size m.sum m.segs hp _ rfl _ rfl;exact h
structure Seg where
 base:Int
 n:Int
 size:Int
 deriving DecidableEq
def Seg.enc (e:Seg):List D:=[.i .i64 e.base,.i .i64 e.n,.i .i64 e.size]
theorem Seg.len (e:Seg):e.enc.length=3:=Eq.trans rfl rfl
theorem Seg.tk (e:Seg):e.enc.take 3=e.enc:=Eq.trans rfl rfl
theorem Seg.tkL (e:Seg):(e.enc.map L.d).take 3=e.enc.map L.d:=Eq.trans rfl rfl
theorem Seg.at0 (e:Seg):e.enc[0]?=some (.i .i64 e.base):=Eq.trans rfl rfl
def Seg.ok (e:Seg):Prop:=(-9223372036854775808<=e.base∧e.base<9223372036854775808)∧(-9223372036854775808<=e.n∧e.n<9223372036854775808)∧(-9223372036854775808<=e.size∧e.size<9223372036854775808)
def Seg.ty:List Ty:=[.i .i64,.i .i64,.i .i64]
structure Sto where
 disk:Dsk
 ver:Int
 segs:List Seg
 next:Int
 sure:Int
 size:Int
 sum:Int
def Sto.l (s:Sto):List L:=s.disk.l++[zI s.ver,.d (.l (s.segs.map Seg.enc)),zI s.next,zI s.sure,zI s.size,zW s.sum]
def Sto.man (s:Sto):Man:=⟨s.ver,s.segs.map Seg.base,s.size,s.sum⟩
def cf (r:Sto × Int):V:=.tup [(true,r.1.l),(false,[zI r.2])]
theorem lV (s:Sto) (g:Seg) (hl:s.segs.length<=1000000) (hg:s.segs.getLast?=some g):call 100 [.agg s.l] []=some (.agg (g.enc.map .d),[]):=by
 apply ae Tz rfl;obtain⟨⟨fl,cp,ar,lf,dn⟩,ver,segs,next,sure,size,sum⟩:=s;simp only at hg hl;have h0:0<segs.length:=by cases segs <;> simp_all
 have h2:((segs.length:Int)-1).toNat=segs.length-1:=by omega
 have g1:(segs.map Seg.enc)[segs.length-1]?=some g.enc:=by rw[zG,<- List.getLast?_eq_getElem?,hg];rfl
 refine bd ?_ RB.eq_1 @Sto.l.eq_1 @Dsk.l.eq_1 h2 g1 @Seg.len @Seg.tk @Seg.tkL;try simp[trim]
theorem oY (s:Sto):call 119 [.agg s.l] []=some (vi (match s.segs with|[]=>0|g::_=>g.base),[]):=by
 apply ae UJ rfl;obtain⟨⟨fl,cp,ar,lf,dn⟩,ver,segs,next,sure,size,sum⟩:=s;cases segs with
 | nil=>(refine bd ?_ O3.eq_1 @Sto.l.eq_1 @Dsk.l.eq_1;try exact True.intro)
 | cons g r =>
  refine bd ?_ O3.eq_1 @Sto.l.eq_1 @Dsk.l.eq_1 @Seg.len @Seg.at0;try simp[trim]
def S4:List Seg->Int->Nat->Seg->Seg
 | l,off,0,z=>l.headD z
 | l,off,k+1,z=>match l[k+1]? with|some g=>if g.base > off then S4 l off k z else g|none=>z
def Sto.hld (s:Sto) (off:Int):Seg:=S4 s.segs off (s.segs.length-1) ⟨0,0,0⟩
structure okS (k u:Nat) (s:Sto):Prop where
 dsk:okN k u s.disk
 len:1<=s.segs.length∧s.segs.length<=64
 seg:∀ g∈s.segs,(0<=g.base∧g.base<=1099511627776)∧(0<=g.n∧g.n<=u)∧(0<=g.size∧g.size<=u)
 next:0<=s.next∧s.next<=1099511627776
 ver:0<=s.ver∧s.ver<=u
 sum:0<=s.sum∧s.sum<4294967296
def Sto.last (s:Sto):Seg:=s.segs.getLastD ⟨0,0,0⟩
theorem rM {s:Sto} (h:1<=s.segs.length):s.segs.getLast?=some s.last:=by
 unfold Sto.last;rw[List.getLastD_eq_getLast?];cases hc:s.segs.getLast? with
 | some g=>rfl
 | none=>rw[List.getLast?_eq_none_iff] at hc;rw[hc] at h;exact absurd h (by decide)
theorem pW {s:Sto} (h:1<=s.segs.length):s.last∈s.segs:=List.mem_of_getLast? (rM h)
def fileN (n:Int):Txt:=fT 115 n.toNat
theorem mC {n:Int} (h:0<=n∧n<=1099511627776):call 103 [vi n] []=some (vs (fileN n),[]):=by
 have:=J2 n.toNat (by omega)
 have e:((n.toNat:Nat):Int)=n:=by omega
 rw[e] at this;exact this
def aW (s:Sto):Sto × Int :=
 let r:=ai s.disk (ch s.disk.files (fileN s.last.base))
 ({ s with disk:=r.1,sure:=if r.2=0 then s.next else s.sure },r.2)
theorem qT {k u:Nat} (s:Sto) (h:okS k u s) (hk:k<=800000) (hu:u<=800000000000):call 85 [.agg s.l] []=some (cf (aW s),[]):=by
 apply ae W9 rfl;have q1:=lV s s.last (by have:=h.len;omega) (rM h.len.1)
 have q2:=mC (h.seg _ (pW h.len.1)).1;have q3:=oa s.disk (h.dsk.ok (by omega) (by omega)) (fileN s.last.base)
 unfold aW;simp only[];generalize ai s.disk (ch s.disk.files (fileN s.last.base))=r at *;generalize s.last=g at *;obtain⟨⟨fl,cp,ar,lf,dn⟩,ver,segs,next,sure,size,sum⟩:=s;obtain⟨⟨f2,cp2,ar2,lf2,dn2⟩,e2⟩:=r;obtain⟨b,n,z⟩:=g;simp only[Sto.l,Dsk.l,Seg.enc,aK,List.cons_append,List.nil_append,List.map_cons,List.map_nil] at q1 q2 q3 ⊢;by_cases c:e2=0
 ·subst c;refine bh ?_ U7.eq_1 q1 q2 q3 @cf.eq_1 @Sto.l.eq_1 @Dsk.l.eq_1;try simp[trim]
 ·refine bh ?_ U7.eq_1 q1 q2 q3 c @cf.eq_1 @Sto.l.eq_1 @Dsk.l.eq_1;try simp[trim,c]
def lR (segs:List Seg) (i:Nat):List (List D):=(segs.take i).map (fun g=>eI g.base)++List.replicate (segs.length-i) (eI 0)
theorem FJ (segs:List Seg) (i:Nat) (h:i<=segs.length):(lR segs i).length=segs.length:=by simp[lR];omega
theorem IS (segs:List Seg) (i:Nat) (h:i<segs.length):(lR segs i)[i]?=some (eI 0):=by
 unfold lR;rw[List.getElem?_append_right (by simp;omega),List.getElem?_replicate]
 rw[if_pos];simp;omega
theorem GO (segs:List Seg) (i:Nat) (h:i<segs.length):(lR segs i).set i (eI segs[i].base)=lR segs (i+1):=by
 unfold lR;have e:segs.length-i=(segs.length-(i+1))+1:=by omega
 rw[List.set_append_right _ _ (by simp;omega),e,List.replicate_succ,zO h,List.map_append]
 have e2:i-((segs.take i).map fun g=>eI g.base).length=0:=by simp;omega
 rw[e2];simp
theorem vB (s:Sto) (hl:s.segs.length<=1000000):call 117 [.agg s.l] []=some (.agg s.man.l,[]):=by
 apply ae Vk rfl;obtain⟨⟨fl,cp,ar,lf,dn⟩,ver,segs,next,sure,size,sum⟩:=s;simp only at hl;unfold Sto.man;refine R5 ?_ Sk.eq_1 @Sto.l.eq_1 @Dsk.l.eq_1 @Man.l.eq_1;refine aq (m:=0) (σ:=Nat) (fun i=>segs.length-i) (fun i=>i<=segs.length) (fun i=>[V.one (.p 0 0),V.one (.p 1 0),vl (segs.map Seg.enc),vi segs.length,vi i])
  (fun i=>[.cells [zI 0,.ns,zI 0,zW 0],.cells [zI ver,.sl 2 1 0 segs.length,zI size,zW sum],.arr 1 (lR segs i) 0]) (fun _=>(V.agg [zI ver,.d (.l ((segs.map Seg.base).map eI)),zI size,zW sum],[])) ?_ 0 (zP _) _ _ ?_
 rotate_left
 ·have e:lR segs 0=List.replicate segs.length [D.i .i64 0]:=by simp[lR,eI]
  rw[e];exact bA
 intro i hi R hR;have hln:=FJ segs i hi;by_cases c:i<segs.length
 ·have g1:(segs.map Seg.enc)[i]?=some segs[i].enc:=by simp[c]
  have g2:=IS segs i c;have g3:=GO segs i c;have hR':=hR (i+1) (by omega) (by omega)
  rw[<- g3] at hR';generalize lR segs i=Q at *;generalize segs[i]=g at *;obtain⟨b,n,z⟩:=g;simp only[eI] at g2 hR';refine bd ?_ DI.eq_1 c g1 g2 @Seg.enc.eq_1 hln;exact hR' _ _ bA
 ·have e:i=segs.length:=by omega
  subst e;have e2:lR segs segs.length=segs.map fun g=>eI g.base:=by simp[lR]
  rw[e2] at hln ⊢;have e3:(segs.map Seg.base).map eI=segs.map fun g=>eI g.base:=by simp
  rw[e3];generalize (segs.map fun g=>eI g.base)=Q at *
  have e4:Q.take segs.length=Q:=zL (by omega)
  refine bd ?_ DI.eq_1 e4 hln;try simp[zR]
def aH (d:Dsk):Sto × Int :=
 let s1:=bR (fileN 0) (d,0)
 let s2:=if s1.2=0 then bT ⟨1,[0],0,0⟩ s1 else s1
 if s2.2=0 then(⟨s2.1,1,[⟨0,0,0⟩],0,0,0,0⟩,0) else(⟨s2.1,0,[],0,0,0,0⟩,s2.2)
end Go.Proofs.YtgoifbjgmgbihaaGreat
