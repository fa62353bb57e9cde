import Derived.Test.YtghfhomfppbooaaGreatT02
import Derived.Test.YtghfhomfppbooaaGreatVid
set_option linter.unusedSimpArgs false
set_option linter.unusedVariables false
namespace Go.Proofs.YtghfhomfppbooaaGreat
open Go.Vi
def numB (b:Int) (l:List Rec):Prop:=∀ k (h:k<l.length),l[k].at_=b+k
theorem D9 {b:Int} {r:Rec} {l:List Rec} (h:numB b (r::l)):r.at_=b∧numB (b+1) l:=by
 constructor
 ·have:=h 0 (by simp);simpa using this
 ·intro k hk;have:=h (k+1) (by simpa using hk)
  simp only[List.getElem_cons_succ] at this;rw[this];omega
theorem uG {b:Int} {l:List Rec} (w:Nat) (h:numB b l):numB b (l.take w):=by
 intro k hk;rw[List.getElem_take];exact h k _
theorem p6 (r:Rec) (l:List Rec):rowS (r::l)=aK (bA r)++rowS l:=rfl
theorem qF:∀ (l:List Rec) (p q:List UInt8) (f:Nat) (b:Int),(∀ r∈l,whyF r=0)->numB b l->l.length<=f ->
  (bg f (p++(rowS l++q)) p.length b).1.map (·.1)=l++(bg (f-l.length) (p++(rowS l++q)) (p++rowS l).length (b+l.length)).1.map (·.1) ∧
  (bg f (p++(rowS l++q)) p.length b).2=(bg (f-l.length) (p++(rowS l++q)) (p++rowS l).length (b+l.length)).2:=by
 intro l;induction l with
 | nil =>
  intro p q f b _ _ _;have:rowS []=[]:=rfl;simp[this]
 | cons r l ih =>
  intro p q f b hw hn hf;obtain⟨g,rfl⟩:∃ g,f=g+1:=⟨f-1,by simp at hf;omega⟩
  have w0:=hw r (List.mem_cons_self ..);have hfit:=oc.1 w0;have hb:=hfit.blen;have hp:=uN (bA r);have hx:=qg p (bA r) (rowS l++q) (by omega) (by omega)
  have hg:=Db hfit;have hnn:=D9 hn;have e0:p++(rowS (r::l)++q)=p++(aK (bA r)++(rowS l++q)):=by rw[p6];simp
  have e1:p++(aK (bA r)++(rowS l++q))=(p++aK (bA r))++(rowS l++q):=by simp
  have e2:(p++aK (bA r))++rowS l=p++rowS (r::l):=by rw[p6];simp
  have hlt:p.length<(p++(aK (bA r)++(rowS l++q))).length:=by simp;omega
  have:=ih (p++aK (bA r)) q g (b+1) (fun x hx=>hw x (List.mem_cons_of_mem _ hx)) hnn.2 (by simp at hf;omega)
  have hlen:(p++aK (bA r)).length=p.length+(aK (bA r)).length:=List.length_append;rw[<- e1,e2,hlen] at this;rw[e0,dF hlt hx (by rw[hg]) (by rw[hg];exact hnn.1),hg]
  have e3:g+1-(r::l).length=g-l.length:=by simp
  have e4:b+((r::l).length:Int)=b+1+(l.length:Int):=by simp;omega
  rw[e3,e4];exact⟨by simp only[List.map_cons,this.1,List.cons_append],this.2⟩
theorem vW:∀ l:List Rec,l.length<=(rowS l).length
 | []=>by simp
 | r::l=>by
  have:=vW l;have hp:=uN (bA r);rw[p6,List.length_append,List.length_cons];omega
def b9 (l:List Rec) (k:Nat):Nat:=(rowS (l.take k)).length
theorem xC (l:List Rec) (b:Int) (hb:dy b=true) (hw:∀ r∈l,whyF r=0) (hn:numB b l):(cU (rowS l) b).1.map (·.1)=l∧(cU (rowS l) b).2=((rowS l).length,0):=by
 have hge:=vW l;have h:=qF l [] [] ((rowS l).length+1) b hw hn (by omega)
 simp only[List.nil_append,List.append_nil,List.length_nil] at h;rw[dz (f:=(rowS l).length+1-l.length) (Nat.le_refl _)] at h;unfold cU;rw[if_pos hb];exact⟨by simpa using h.1,h.2⟩
theorem EF (l:List Rec) (b:Int) (hb:dy b=true) (hw:∀ r∈l,whyF r=0) (hn:numB b l) (w n:Nat) (hwl:w<=l.length) (h1:b9 l w<=n) (h2:w=l.length->n<=b9 l w) (h3:w<l.length->n<b9 l (w+1)) :
  (cU ((rowS l).take n) b).1.map (·.1)=l.take w∧(cU ((rowS l).take n) b).2=(b9 l w,if b9 l w=n then 0 else 2):=by
 have hw':∀ r∈l.take w,whyF r=0:=fun r hr=>hw r (List.mem_of_mem_take hr)
 have hge:=vW (l.take w);have hlw:(l.take w).length=w:=by simp;omega
 obtain⟨q,hq,hcase⟩:∃ q,(rowS l).take n=rowS (l.take w)++q∧((q=[]∧b9 l w=n)∨(∃ (h:w<l.length) (m:Nat),q=(aK (bA l[w])).take m∧0<m∧m<(aK (bA l[w])).length∧b9 l w+m=n)):=by
  rcases Nat.lt_or_ge w l.length with h|h
  ·have hes:b9 l (w+1)=b9 l w+(aK (bA l[w])).length:=by
    unfold b9;rw[D8 l w h,List.length_append];rfl
   have hlt:=h3 h;have hsp:rowS l=rowS (l.take w)++(aK (bA l[w])++rowS (l.drop (w+1))):=by
    conv=>lhs;rw[<- List.take_append_drop w l,List.drop_eq_getElem_cons h]
    simp only[rowS,List.flatMap_append,List.flatMap_cons];rfl
   have hx:(rowS l).take n=rowS (l.take w)++(aK (bA l[w])).take (n-b9 l w):=by
    rw[hsp,List.take_append,List.take_of_length_le h1];congr 1
    exact List.take_append_of_le_length (by unfold b9 at *;omega)
   by_cases he:b9 l w=n
   ·refine⟨[],?_,.inl ⟨rfl,he⟩⟩;rw[hx,he,Nat.sub_self];simp
   ·exact⟨_,hx,.inr ⟨h,n-b9 l w,rfl,by omega,by omega,by omega⟩⟩
  ·have hwe:w=l.length:=by omega
   have:=h2 hwe;refine⟨[],?_,.inl ⟨rfl,by omega⟩⟩
   rw[hwe,List.take_of_length_le (Nat.le_refl _),List.append_nil];refine List.take_of_length_le ?_;have e:b9 l l.length=(rowS l).length:=by unfold b9;rw[List.take_of_length_le (Nat.le_refl _)]
   rw[hwe,e] at h1;exact h1
 have har:=qF (l.take w) [] q ((rowS (l.take w)++q).length+1) b hw' (uG w hn) (by simp;simp at hge;omega)
 simp only[List.nil_append,List.length_nil] at har;unfold cU;rw[if_pos hb,hq];rcases hcase with⟨hqe,he⟩|⟨h,m,hqe,hm0,hm1,he⟩
 ·subst hqe;have z:=dz (s:=rowS (l.take w)++[]) (a:=(rowS (l.take w)).length) (f:=(rowS (l.take w)++[]).length+1-(l.take w).length) (b:=b+((l.take w).length:Int)) (by simp)
  rw[z] at har;rw[if_pos he];exact⟨by simpa using har.1,har.2⟩
 ·have hbl:=(oc.1 (hw l[w] (List.getElem_mem h))).blen;have hc:=C6 (rowS (l.take w)) (bA l[w]) m (by omega) (by omega) hm0 hm1
  rw[<- hqe] at hc;have hql:q.length=m:=by rw[hqe];simp;omega
  obtain⟨f,hf⟩:∃ f,(rowS (l.take w)++q).length+1-(l.take w).length=f+1:=⟨(rowS (l.take w)++q).length-(l.take w).length,by simp;simp at hge;omega⟩
  rw[hf,dG (by rw[List.length_append];omega) hc (by decide)] at har
  rw[if_neg (by omega)]
  exact⟨by simpa using har.1,har.2⟩
abbrev Txt:=List UInt8
def bl (a b:Txt):Bool:=Op.bytesLess a b
theorem Fz (a:Txt):bl a []=false:=by cases a <;> rfl
theorem rm (a b:UInt8) (x y:Txt):bl (a::x) (b::y)=(decide (a<b) || (a == b && bl x y)):=rfl
theorem fG:∀ a:Txt,bl a a=false
 | []=>rfl
 | a::x=>by rw[rm,fG x];simp
theorem rP:∀ a b:Txt,bl a b=true∨a=b∨bl b a=true
 | [],[]=>.inr (.inl rfl)
 | [],_::_=>.inl rfl
 | _::_,[]=>.inr (.inr rfl)
 | a::x,b::y=>by
  rw[rm,rm];by_cases h:a=b
  ·subst h;rcases rP x y with h|h|h
   ·left;simp[h]
   ·right;left;rw[h]
   ·right;right;simp[h]
  ·rcases Nat.lt_or_ge a.toNat b.toNat with h2|h2
   ·left;have:a<b:=h2;simp[this]
   ·right;right
    have:b<a:=by
     show b.toNat<a.toNat;have:a.toNat≠b.toNat:=fun e=>h (UInt8.toNat_inj.1 e)
     omega
    simp[this]
theorem lF:∀ {a b c:Txt},bl a b=true->bl b c=true->bl a c=true
 | _,[],_,h,_=>by rw[Fz] at h;cases h
 | _,_::_,[],_,h=>by rw[Fz] at h;cases h
 | [],_::_,_::_,_,_=>rfl
 | a::x,b::y,c::z,h1,h2=>by
  rw[rm] at *;simp only[Bool.or_eq_true,Bool.and_eq_true,decide_eq_true_eq,beq_iff_eq] at *;rcases h1 with h1|⟨rfl,h1⟩
  ·rcases h2 with h2|⟨rfl,h2⟩
   ·left;exact UInt8.lt_trans h1 h2
   ·left;exact h1
  ·rcases h2 with h2|⟨rfl,h2⟩
   ·left;exact h2
   ·right;exact⟨rfl,lF h1 h2⟩
theorem Iz {a b:Txt} (h:bl a b=true):bl b a=false:=by
 cases h2:bl b a with
 | false=>rfl
 | true=>have:=lF h h2;rw[fG] at this;cases this
theorem x6 {a b:Txt} (h:bl a b=true):a≠b:=fun e=>by rw[e,fG] at h;cases h
structure Fil where
 name:List UInt8
 data:List UInt8
 sure:Int
 deriving DecidableEq
def Fil.enc (e:Fil):List D:=[.s e.name,.s e.data,.i .i64 e.sure]
theorem Fil.len (e:Fil):e.enc.length=3:=Eq.trans rfl rfl
theorem Fil.tk (e:Fil):e.enc.take 3=e.enc:=Eq.trans rfl rfl
theorem Fil.tkL (e:Fil):(e.enc.map L.d).take 3=e.enc.map L.d:=Eq.trans rfl rfl
theorem Fil.dat (e:Fil):eb (e.enc.map L.d)=some (e.enc.map L.d):=Eq.trans rfl rfl
theorem Fil.rfs (e:Fil):(e.enc.map L.d).flatMap L.refs=[]:=Eq.trans rfl rfl
theorem Fil.rn (e:Fil) (g:Nat->Option Nat):(e.enc.map L.d).map (L.ren g)=e.enc.map L.d:=Eq.trans rfl rfl
theorem Fil.lenL (e:Fil):(e.enc.map L.d).length=3:=Eq.trans rfl rfl
theorem Fil.at0 (e:Fil):e.enc[0]?=some (.s e.name):=Eq.trans rfl rfl
theorem Fil.fd0 (e:Fil):(e.enc.map L.d)[0]?=some (.d (.s e.name)):=Eq.trans rfl rfl
theorem Fil.at1 (e:Fil):(e.enc.drop 1)[0]?=some (.s e.data):=Eq.trans rfl rfl
theorem Fil.fd1 (e:Fil):(e.enc.map L.d)[1]?=some (.d (.s e.data)):=Eq.trans rfl rfl
theorem Fil.at2 (e:Fil):(e.enc.drop 2)[0]?=some (.i .i64 e.sure):=Eq.trans rfl rfl
theorem Fil.fd2 (e:Fil):(e.enc.map L.d)[2]?=some (.d (.i .i64 e.sure)):=Eq.trans rfl rfl
theorem Fil.up1 (e:Fil) (x:List UInt8):e.enc.take 1++[.s x]++e.enc.drop 2=({ e with data:=x }:Fil).enc:=Eq.trans rfl rfl
theorem Fil.up2 (e:Fil) (x:Int):e.enc.take 2++[.i .i64 x]++e.enc.drop 3=({ e with sure:=x }:Fil).enc:=Eq.trans rfl rfl
def Fil.ok (e:Fil):Prop:=e.name.length<=9223372036854775807∧e.data.length<=9223372036854775807∧(-9223372036854775808<=e.sure∧e.sure<9223372036854775808)
def Fil.ty:List Ty:=[.s,.s,.i .i64]
theorem Fil.eqs (a b:Fil):fT [2,2,0] (a.enc.map L.d) (b.enc.map L.d)=some (decide (a=b)):=by
 cases a;cases b;simp only[Fil.enc,List.map_cons,List.map_nil,fT,oT,if_true,Fil.mk.injEq];congr 1
 rw[Bool.eq_iff_iff];simp only[Bool.and_eq_true,beq_iff_eq,decide_eq_true_eq,and_true]
theorem Fil.of (r:List D) (h:cC Fil.ty r):∃ e:Fil,r=e.enc∧e.ok:=by
 simp only[Fil.ty,cC,Ee] at h;obtain⟨_,_,rfl,⟨x0,rfl,h0⟩,⟨_,_,rfl,⟨x1,rfl,h1⟩,⟨_,_,rfl,⟨x2,rfl,h2,g2⟩,rfl⟩⟩⟩:=h;refine⟨⟨x0,x1,x2⟩,rfl,?_⟩;exact⟨h0,h1,⟨Int.le_trans (by decide) h2,Int.lt_of_le_of_lt g2 (by decide)⟩⟩
structure Dsk where
 files:List Fil
 cap:Int
 armed:Bool
 left:Int
 down:Bool
def Dsk.l (d:Dsk):List L:=[.d (.l (d.files.map Fil.enc)),.d (.i .i64 d.cap),.d (.b d.armed),.d (.i .i64 d.left),.d (.b d.down)]
def dE (s:Txt):Bool:=decide (s≠[]) && decide (s.length<=32)
theorem sh (s:Txt):call 122 [vs s] []=some (vb (dE s),[]):=by
 apply ai OX rfl;by_cases h:s=[]
 ·subst h;have e:(([]:Txt) == [])=true:=rfl;(simp(disch:=first|decide|omega|(intros;exact rfl)|simp only[aa]) only[IW,e,go_sem,seval,aq])
  try rfl
 ·have e:(s == [])=false:=by rw[beq_eq_false_iff_ne];exact h
  by_cases h2:s.length<=32
  ·(simp(disch:=first|decide|omega|(intros;exact rfl)|simp only[aa]) only[IW,e,h2,go_sem,seval,aq])
   simp[dE,h,h2]
  ·(simp(disch:=first|decide|omega|(intros;exact rfl)|simp only[aa]) only[IW,e,h2,go_sem,seval,aq])
   simp[dE,h,h2]
def srt (l:List Fil):Prop:=l.Pairwise fun a b=>bl a.name b.name=true
def aw (l:List Fil) (n:Txt):Nat:=l.countP fun f=>bl f.name n
def bz (l:List Fil) (n:Txt):Bool:=match l[aw l n]? with|some f=>decide (f.name=n)|none=>false
theorem xr {α:Type} (p:α->Bool):∀ (l:List α),l.Pairwise (fun a b=>p b=true->p a=true)->∀ i (h:i<l.length),(p l[i]=true↔i<l.countP p)
 | [],_,i,h=>by simp at h
 | a::l,hp,i,h=>by
  rw[List.pairwise_cons] at hp;cases i with
  | zero =>
   rw[List.getElem_cons_zero,List.countP_cons];constructor
   ·intro h2;simp[h2]
   ·intro h2;by_cases hc:p a=true
    ·exact hc
    ·simp only[hc,Bool.false_eq_true,↓reduceIte,Nat.add_zero] at h2;rw[List.countP_pos_iff] at h2;obtain⟨b,hb,hpb⟩:=h2;exact hp.1 b hb hpb
  | succ i =>
   simp only[List.length_cons,Nat.add_lt_add_iff_right] at h;rw[List.getElem_cons_succ,xr p l hp.2 i h,List.countP_cons];by_cases hc:p a=true
   ·simp[hc]
   ·simp only[hc,Bool.false_eq_true,↓reduceIte,Nat.add_zero];constructor
    ·intro h2;exfalso;have:0<l.countP p:=by omega
     rw[List.countP_pos_iff] at this;obtain⟨b,hb,hpb⟩:=this;exact hc (hp.1 b hb hpb)
    ·intro h2;exfalso;have:0<l.countP p:=by omega
     rw[List.countP_pos_iff] at this;obtain⟨b,hb,hpb⟩:=this;exact hc (hp.1 b hb hpb)
theorem iE {l:List Fil} (hs:srt l) (n:Txt) (i:Nat) (h:i<l.length):bl l[i].name n=true↔i<aw l n :=
 xr (fun f=>bl f.name n) l (hs.imp fun hab hb=>lF hab hb) i h
theorem nK (l:List Fil) (n:Txt):aw l n<=l.length:=List.countP_le_length
def nH (a b:Txt):Int:=if bl a b=true then -1 else if bl b a=true then 1 else 0
theorem He (f:Fil) (n:Txt):call 85 [.agg (f.enc.map .d),vs n] []=some (vi (nH f.name n),[]):=by
 apply ai Qk rfl;unfold nH bl;cases h:Op.bytesLess f.name n with
 | true =>
  (simp(disch:=first|decide|omega|(intros;exact rfl)|simp only[aa]) only[NM,Fil.enc,List.map_cons,List.map_nil,h,go_sem,seval,aq])
  try simp
 | false =>
  rcases rP f.name n with h1|h1|h1
  ·unfold bl at h1;rw[h] at h1;cases h1
  ·have e:(f.name == n)=true:=by rw[h1];exact beq_self_eq_true _
   have h2:Op.bytesLess n f.name=false:=by rw[h1];exact fG n
   (simp(disch:=first|decide|omega|(intros;exact rfl)|simp only[aa]) only[NM,Fil.enc,List.map_cons,List.map_nil,h,e,go_sem,seval,aq])
   try simp[h2]
  ·have e:(f.name == n)=false:=by rw[beq_eq_false_iff_ne];exact fun e=>x6 h1 e.symm
   have h2:Op.bytesLess n f.name=true:=h1;(simp(disch:=first|decide|omega|(intros;exact rfl)|simp only[aa]) only[NM,Fil.enc,List.map_cons,List.map_nil,h,e,go_sem,seval,aq])
   try simp[h2]
theorem MH (f:Fil) (n:Txt) (H:Hp):az call 85 [.agg (f.enc.map .d),vs n] H=some (vi (nH f.name n),H):=callIso_pure rfl (He f n) rfl
theorem qZ (a b:Txt):nH a b<0↔bl a b=true:=by unfold nH;split <;> simp_all;split <;> omega
theorem o0 {a b:Txt}:nH a b=0↔a=b:=by
 unfold nH;rcases rP a b with h|h|h
 ·simp[h,x6 h]
 ·subst h;simp[fG]
 ·simp[h,Iz h];exact fun e=>x6 h e.symm
def cE (l:List Fil) (n:Txt):V:=.tup [(false,[.d (.i .i64 (aw l n:Nat))]),(false,[.d (.b (bz l n))])]
theorem Mj (lo hi:Nat):Int.fdiv ((lo:Int)+(hi:Int)) 2=(((lo+hi) / 2:Nat):Int):=by
 rw[Int.fdiv_eq_ediv_of_nonneg _ (by decide)];omega
theorem Jl (n:Int):cA .shr (.i .u64 n) (.i .u64 1)=some (.i .u64 (n.fdiv 2)):=rfl
set_option maxRecDepth 8000 in
set_option maxHeartbeats 1000000 in
theorem wA (l:List Fil) (hl:l.length<=1000000) (hs:srt l) (n:Txt):call 84 [vl (l.map Fil.enc),vs n,.one (.f 85 [])] []=some (cE l n,[]):=by
 apply ai PE rfl;have hc:=fun(f:Fil)=>MH f n
 obtain⟨Z,hZ⟩:∃ Z:V × Hp,Z=(cE l n,[]):=⟨_,rfl⟩;rw[<- hZ];(simp(disch:=first|decide|omega|(intros;exact rfl)|simp only[aa]) only[Ph,go_sem,seval,aq])
 refine aI (m:=0) (σ:=Nat × Nat) (fun t=>t.2-t.1) (fun t=>t.1<=aw l n∧aw l n<=t.2∧t.2<=l.length) (fun t=>[vl (l.map Fil.enc),vs n,.one (.f 85 []),vi l.length,vi t.1,vi t.2]) (fun t=>[])
  (fun t=>Z) ?_ (0,l.length) ⟨Nat.zero_le _,nK l n,Nat.le_refl _⟩ _ _ cG
 rintro⟨lo,hi⟩ ⟨h1,h2,h3⟩ R hR;simp only at h1 h2 h3 ⊢;by_cases c:lo<hi
 ·have hm:=Mj lo hi;have hmid:(lo+hi) / 2<l.length:=by omega
  have hp:=iE hs n _ hmid;obtain⟨mid,hmd⟩:∃ mid,mid=(lo+hi) / 2:=⟨_,rfl⟩;simp only[<- hmd] at hm hmid hp;have g1:(l.map Fil.enc)[mid]?=some l[mid].enc:=by simp[hmid]
  by_cases c2:bl l[mid].name n=true
  ·have:=hp.1 c2;have hcn:nH l[mid].name n<0:=(qZ _ _).2 c2;(simp(disch:=first|decide|omega|(intros;exact rfl)|simp only[aa]) only[mn,↓Jl,hm,g1,Fil.len,Fil.tkL,Fil.tk,↓hc,hcn,go_sem,seval,aq])
   exact hR (mid+1,hi) (by simp only[];omega) ⟨by simp only[];omega,h2,h3⟩ _ _ cG
  ·have:¬ mid<aw l n:=fun h=>c2 (hp.2 h)
   have hcn:¬ nH l[mid].name n<0:=fun h=>c2 ((qZ _ _).1 h)
   (simp(disch:=first|decide|omega|(intros;exact rfl)|simp only[aa]) only[mn,↓Jl,hm,g1,Fil.len,Fil.tkL,Fil.tk,↓hc,hcn,go_sem,seval,aq])
   exact hR (lo,mid) (by simp only[];omega) ⟨h1,by simp only[];omega,by simp only[];omega⟩ _ _ cG
 ·have hlo:lo=aw l n:=by omega
  subst hlo;by_cases c0:aw l n<l.length
  ·have g1:(l.map Fil.enc)[aw l n]?=some l[aw l n].enc:=by simp[c0]
   have hhas:bz l n=decide (l[aw l n].name=n):=by unfold bz;rw[List.getElem?_eq_getElem c0]
   by_cases c3:l[aw l n].name=n
   ·have hcz:nH l[aw l n].name n=0:=o0.2 c3;(simp(disch:=first|decide|omega|(intros;exact rfl)|simp only[aa]) only[mn,c,c0,g1,Fil.len,Fil.tkL,Fil.tk,↓hc,hcz,go_sem,seval,aq])
    rw[hZ];simp[cE,hhas,c3]
   ·have hcz:¬ nH l[aw l n].name n=0:=fun h=>c3 (o0.1 h)
    (simp(disch:=first|decide|omega|(intros;exact rfl)|simp only[aa]) only[mn,c,c0,g1,Fil.len,Fil.tkL,Fil.tk,↓hc,hcz,go_sem,seval,aq])
    rw[hZ];simp[cE,hhas,c3]
  ·have hhas:bz l n=false:=by unfold bz;rw[List.getElem?_eq_none (by omega)]
   (simp(disch:=first|decide|omega|(intros;exact rfl)|simp only[aa]) only[mn,c,c0,go_sem,seval,aq])
   rw[hZ];simp[cE,hhas]
set_option maxRecDepth 8000 in
set_option maxHeartbeats 1000000 in
theorem xF (l:List Fil) (hl:l.length<=1000000) (hs:srt l) (n:Txt):call 84 [.one (.sl 0 3 0 l.length),vs n,.one (.f 85 [])] [.arr 3 (l.map Fil.enc) 0]=some (cE l n,[.arr 3 (l.map Fil.enc) 0]):=by
 apply ai PE rfl;have hc:=fun(f:Fil)=>MH f n
 obtain⟨Z,hZ⟩:∃ Z:V × Hp,Z=(cE l n,[.arr 3 (l.map Fil.enc) 0]):=⟨_,rfl⟩;rw[<- hZ];(simp(disch:=first|decide|omega|(intros;exact rfl)|simp only[aa]) only[Ph,go_sem,seval,aq])
 refine aI (m:=1) (σ:=Nat × Nat) (fun t=>t.2-t.1) (fun t=>t.1<=aw l n∧aw l n<=t.2∧t.2<=l.length) (fun t=>[V.one (.sl 0 3 0 l.length),vs n,.one (.f 85 []),vi l.length,vi t.1,vi t.2]) (fun t=>[.arr 3 (l.map Fil.enc) 0])
  (fun t=>Z) ?_ (0,l.length) ⟨Nat.zero_le _,nK l n,Nat.le_refl _⟩ _ _ cG
 rintro⟨lo,hi⟩ ⟨h1,h2,h3⟩ R hR;simp only at h1 h2 h3 ⊢;by_cases c:lo<hi
 ·have hm:=Mj lo hi;have hmid:(lo+hi) / 2<l.length:=by omega
  have hp:=iE hs n _ hmid;obtain⟨mid,hmd⟩:∃ mid,mid=(lo+hi) / 2:=⟨_,rfl⟩;simp only[<- hmd] at hm hmid hp;have g1:(l.map Fil.enc)[mid]?=some l[mid].enc:=by simp[hmid]
  by_cases c2:bl l[mid].name n=true
  ·have:=hp.1 c2;have hcn:nH l[mid].name n<0:=(qZ _ _).2 c2;(simp(disch:=first|decide|omega|(intros;exact rfl)|simp only[aa]) only[mn,↓Jl,hm,g1,Fil.len,Fil.tkL,Fil.tk,↓hc,hcn,go_sem,seval,aq])
   exact hR (mid+1,hi) (by simp only[];omega) ⟨by simp only[];omega,h2,h3⟩ _ _ cG
  ·have:¬ mid<aw l n:=fun h=>c2 (hp.2 h)
   have hcn:¬ nH l[mid].name n<0:=fun h=>c2 ((qZ _ _).1 h)
   (simp(disch:=first|decide|omega|(intros;exact rfl)|simp only[aa]) only[mn,↓Jl,hm,g1,Fil.len,Fil.tkL,Fil.tk,↓hc,hcn,go_sem,seval,aq])
   exact hR (lo,mid) (by simp only[];omega) ⟨h1,by simp only[];omega,by simp only[];omega⟩ _ _ cG
 ·have hlo:lo=aw l n:=by omega
  subst hlo;by_cases c0:aw l n<l.length
  ·have g1:(l.map Fil.enc)[aw l n]?=some l[aw l n].enc:=by simp[c0]
   have hhas:bz l n=decide (l[aw l n].name=n):=by unfold bz;rw[List.getElem?_eq_getElem c0]
   by_cases c3:l[aw l n].name=n
   ·have hcz:nH l[aw l n].name n=0:=o0.2 c3;(simp(disch:=first|decide|omega|(intros;exact rfl)|simp only[aa]) only[mn,c,c0,g1,Fil.len,Fil.tkL,Fil.tk,↓hc,hcz,go_sem,seval,aq])
    rw[hZ];simp[cE,hhas,c3,trim,V.refs,L.refs,Box.refs]
   ·have hcz:¬ nH l[aw l n].name n=0:=fun h=>c3 (o0.1 h)
    (simp(disch:=first|decide|omega|(intros;exact rfl)|simp only[aa]) only[mn,c,c0,g1,Fil.len,Fil.tkL,Fil.tk,↓hc,hcz,go_sem,seval,aq])
    rw[hZ];simp[cE,hhas,c3,trim,V.refs,L.refs,Box.refs]
  ·have hhas:bz l n=false:=by unfold bz;rw[List.getElem?_eq_none (by omega)]
   (simp(disch:=first|decide|omega|(intros;exact rfl)|simp only[aa]) only[mn,c,c0,go_sem,seval,aq])
   rw[hZ];simp[cE,hhas,trim,V.refs,L.refs,Box.refs]
theorem DN (l:List Fil) (hl:l.length<=1000000) (hs:srt l) (n:Txt):call 48 [vl (l.map Fil.enc),vs n] []=some (cE l n,[]):=by
 apply ai PN rfl;have h:∀ H,az call 84 [vl (l.map Fil.enc),vs n,.one (.f 85 [])] H=some (cE l n,H):=fun H=>callIso_pure rfl (wA l hl hs n) rfl
 unfold cE at h ⊢;(simp(disch:=first|decide|omega|(intros;exact rfl)|simp only[aa]) only[O7,↓h,go_sem,seval,aq])
 try simp[trim]
theorem oB (l:List Fil) (hl:l.length<=1000000) (hs:srt l) (n:Txt):call 48 [.one (.sl 0 3 0 l.length),vs n] [.arr 3 (l.map Fil.enc) 0]=some (cE l n,[.arr 3 (l.map Fil.enc) 0]):=by
 apply ai PN rfl;have h:az call 84 [.one (.sl 0 3 0 l.length),vs n,.one (.f 85 [])] [.arr 3 (l.map Fil.enc) 0]=some (cE l n,[.arr 3 (l.map Fil.enc) 0]) :=
  aU (ids:=[0]) rfl rfl rfl (xF l hl hs n) rfl
 unfold cE at h ⊢;(simp(disch:=first|decide|omega|(intros;exact rfl)|simp only[aa]) only[O7,↓h,go_sem,seval,aq])
 simp[trim,V.refs,L.refs,Box.refs]
def aC (l:List Fil) (n:Txt):Txt × Int:=match l[aw l n]? with|some f=>if f.name=n then(f.data,0) else([],7)|none=>([],7)
theorem iN (d:Dsk) (hl:d.files.length<=1000000) (hs:srt d.files) (n:Txt):call 22 [.agg d.l,vs n] []=some (.tup [(false,[.d (.s (aC d.files n).1)]),(false,[.d (.i .i64 (aC d.files n).2)])],[]):=by
 apply ai QL rfl;have h:=DN d.files hl hs n;unfold cE bz at h;unfold aC;by_cases c:aw d.files n<d.files.length
 ·rw[List.getElem?_eq_getElem c] at h ⊢;have g1:(d.files.map Fil.enc)[aw d.files n]?=some d.files[aw d.files n].enc:=by simp[c]
  by_cases c2:d.files[aw d.files n].name=n
  ·simp only[c2,decide_true] at h;(simp(disch:=first|decide|omega|(intros;exact rfl)|simp only[aa]) only[NQ,Dsk.l,h,g1,Fil.len,Fil.tkL,Fil.tk,Fil.at1,go_sem,seval,aq])
   simp[c2]
  ·simp only[c2,decide_false] at h;(simp(disch:=first|decide|omega|(intros;exact rfl)|simp only[aa]) only[NQ,Dsk.l,h,go_sem,seval,aq])
   simp[c2]
 ·rw[List.getElem?_eq_none (by omega)] at h ⊢
  (simp(disch:=first|decide|omega|(intros;exact rfl)|simp only[aa]) only[NQ,Dsk.l,h,go_sem,seval,aq])
  try simp
def usedF (l:List Fil):Nat:=(l.map fun f=>f.data.length).sum
theorem cu (a b:List Fil):usedF (a++b)=usedF a+usedF b:=by unfold usedF;rw[List.map_append,List.sum_append]
theorem gk (f:Fil):usedF [f]=f.data.length:=by simp[usedF]
theorem mr (l:List Fil) (i:Nat):usedF (l.take i)<=usedF l:=by
 have:=cu (l.take i) (l.drop i);rw[List.take_append_drop] at this;omega
theorem CC (d:Dsk) (hl:d.files.length<=1000000) (hu:usedF d.files<=1000000000000):call 129 [.agg d.l] []=some (vi (usedF d.files:Nat),[]):=by
 apply ai N2 rfl;(simp(disch:=first|decide|omega|(intros;exact rfl)|simp only[aa]) only[MM,Dsk.l,go_sem,seval,aq])
 refine aI (m:=0) (σ:=Nat) (fun i=>d.files.length-i) (fun i=>i<=d.files.length) (fun i=>[vi (usedF (d.files.take i):Nat),vl (d.files.map Fil.enc),vi d.files.length,vi i]) (fun i=>[])
  (fun t=>(vi (usedF d.files:Nat),[])) ?_ 0 (Nat.zero_le _) _ _ ?_
 rotate_left
 ·exact cG
 intro i hi R hR;have hle:=mr d.files i;by_cases c:i<d.files.length
 ·have hR':=hR (i+1) (by omega) (by omega)
  have e1:usedF (d.files.take (i+1))=usedF (d.files.take i)+d.files[i].data.length:=by
   rw[List.take_succ_eq_append_getElem c,cu,gk]
  have hle2:=mr d.files (i+1);have g1:(d.files.map Fil.enc)[i]?=some d.files[i].enc:=by simp[c]
  rw[e1] at hR' hle2;generalize usedF (d.files.take i)=u at *;(simp(disch:=first|decide|omega|(intros;exact rfl)|simp only[aa]) only[AE,g1,Fil.len,Fil.tkL,Fil.tk,Fil.at1,Fil.fd1,Fil.lenL,List.length_map,go_sem,seval,aq])
  exact hR' _ _ cG
 ·have hi2:i=d.files.length:=by omega
  subst hi2;rw[List.take_length];(simp(disch:=first|decide|omega|(intros;exact rfl)|simp only[aa]) only[AE,go_sem,seval,aq])
  try simp[trim]
def au (d:Dsk) (r:List Fil × Int):Dsk × Int :=
 if d.down=true then(d,10) else if r.2≠0 then(d,r.2) else if d.armed=true then(if d.left=0 then({ d with down:=true },10) else({ d with left:=d.left-1,files:=r.1 },0)) else({ d with files:=r.1 },0)
set_option maxRecDepth 8000 in
set_option maxHeartbeats 2000000 in
theorem Ch (d:Dsk) (hl:d.files.length<=1000000) (hs:srt d.files) (hL:0<=d.left∧d.left<9223372036854775808) (n:Txt) (g:Nat)  (fs:List Fil) (e:Int)
  (hdo:∀ D R:Box,∃ B,D=.cells d.l->d.down=false->az call g [.one (.sl 3 3 0 d.files.length),vi (aw d.files n:Nat),vb (bz d.files n)] [D,R,.dead,.arr 3 (d.files.map Fil.enc) 0]=some (.tup [(false,[.d (.l (fs.map Fil.enc))]),(false,[.d (.i .i64 e)])],[D,R,.dead,B])) :
  call 86 [.agg d.l,vs n,.one (.f g [])] []=some (.tup [(true,(au d (fs,e)).1.l),(false,[.d (.i .i64 (au d (fs,e)).2)])],[]):=by
 apply ai Oz rfl;have hcl:=LG (d.files.map Fil.enc) (bH Fil.len _) (by simp;omega) (by simp;omega)
 have hf:∀ D R:Box,az call 48 [.one (.sl 3 3 0 d.files.length),vs n] [D,R,.dead,.arr 3 (d.files.map Fil.enc) 0]=some (cE d.files n,[D,R,.dead,.arr 3 (d.files.map Fil.enc) 0]):=fun D R =>
  aU (ids:=[3]) rfl rfl rfl (oB d.files hl hs n) rfl
 unfold cE at hf;obtain⟨fl,cp,ar,lf,dn⟩:=d;simp only at *;unfold au;cases dn with
 | true =>
  (simp(disch:=first|decide|omega|(intros;exact rfl)|simp only[aa]) only[y0,Dsk.l,go_sem,seval,aq])
  try simp[trim,V.refs,L.refs,Box.refs,Dsk.l]
 | false =>
  by_cases he:e=0
  ·subst he;cases ar with
   | false =>
    obtain⟨B,hB⟩:=hdo (.cells [.d (.l (fl.map Fil.enc)),.d (.i .i64 cp),.d (.b false),.d (.i .i64 lf),.d (.b false)]) (.cells [.ns,.d (.i .i64 0),.d (.b false),.d (.i .i64 0),.d (.b false)]);have hB:=hB rfl rfl;(simp(disch:=first|decide|omega|(intros;exact rfl)|simp only[aa]) only[y0,Dsk.l,↓hcl,↓hf,↓hB,List.length_map,go_sem,seval,aq])
    try simp[trim,V.refs,L.refs,Box.refs,Dsk.l]
   | true =>
    obtain⟨B,hB⟩:=hdo (.cells [.d (.l (fl.map Fil.enc)),.d (.i .i64 cp),.d (.b true),.d (.i .i64 lf),.d (.b false)]) (.cells [.ns,.d (.i .i64 0),.d (.b false),.d (.i .i64 0),.d (.b false)]);have hB:=hB rfl rfl;by_cases hz:lf=0
    ·subst hz;(simp(disch:=first|decide|omega|(intros;exact rfl)|simp only[aa]) only[y0,Dsk.l,↓hcl,↓hf,↓hB,List.length_map,go_sem,seval,aq])
     try simp[trim,V.refs,L.refs,Box.refs,Dsk.l]
    ·(simp(disch:=first|decide|omega|(intros;exact rfl)|simp only[aa]) only[y0,Dsk.l,↓hcl,↓hf,↓hB,List.length_map,hz,go_sem,seval,aq])
     try simp[trim,V.refs,L.refs,Box.refs,Dsk.l,hz]
  ·obtain⟨B,hB⟩:=hdo (.cells [.d (.l (fl.map Fil.enc)),.d (.i .i64 cp),.d (.b ar),.d (.i .i64 lf),.d (.b false)]) (.cells [.ns,.d (.i .i64 0),.d (.b false),.d (.i .i64 0),.d (.b false)]);have hB:=hB rfl rfl;(simp(disch:=first|decide|omega|(intros;exact rfl)|simp only[aa]) only[y0,Dsk.l,↓hcl,↓hf,↓hB,List.length_map,he,go_sem,seval,aq])
   try simp[trim,V.refs,L.refs,Box.refs,Dsk.l,he]
set_option maxRecDepth 8000 in
set_option maxHeartbeats 2000000 in
theorem vQ (d:Dsk) (hl:d.files.length<=1000000) (hs:srt d.files) (hL:0<=d.left∧d.left<9223372036854775808) (n:Txt) (g:Nat) (x0:List L) (hx0:x0.flatMap L.refs=[]) (fs:List Fil) (e:Int)
  (hdo:∀ D R:Box,∃ B,D=.cells d.l->d.down=false->az call g [.one (.sl 4 3 0 d.files.length),vi (aw d.files n:Nat),vb (bz d.files n),.one (.p 0 0)] [(.cells x0),D,R,.dead,.arr 3 (d.files.map Fil.enc) 0]=some (.tup [(false,[.d (.l (fs.map Fil.enc))]),(false,[.d (.i .i64 e)])],[(.cells x0),D,R,.dead,B])) :
  call 86 [.agg d.l,vs n,.one (.f g [0])] [(.cells x0)]=some (.tup [(true,(au d (fs,e)).1.l),(false,[.d (.i .i64 (au d (fs,e)).2)])],[(.cells x0)]):=by
 apply ai Oz rfl;have hcl:=LG (d.files.map Fil.enc) (bH Fil.len _) (by simp;omega) (by simp;omega)
 have hf:∀ D R:Box,az call 48 [.one (.sl 4 3 0 d.files.length),vs n] [(.cells x0),D,R,.dead,.arr 3 (d.files.map Fil.enc) 0]=some (cE d.files n,[(.cells x0),D,R,.dead,.arr 3 (d.files.map Fil.enc) 0]):=fun D R =>
  aU (ids:=[4]) rfl rfl rfl (oB d.files hl hs n) rfl
 unfold cE at hf;obtain⟨fl,cp,ar,lf,dn⟩:=d;simp only at *;unfold au;cases dn with
 | true =>
  (simp(disch:=first|decide|omega|(intros;exact rfl)|simp only[aa]) only[y0,Dsk.l,go_sem,seval,aq])
  try simp[trim,V.refs,L.refs,Box.refs,Dsk.l,hx0]
 | false =>
  by_cases he:e=0
  ·subst he;cases ar with
   | false =>
    obtain⟨B,hB⟩:=hdo (.cells [.d (.l (fl.map Fil.enc)),.d (.i .i64 cp),.d (.b false),.d (.i .i64 lf),.d (.b false)]) (.cells [.ns,.d (.i .i64 0),.d (.b false),.d (.i .i64 0),.d (.b false)]);have hB:=hB rfl rfl;(simp(disch:=first|decide|omega|(intros;exact rfl)|simp only[aa]) only[y0,Dsk.l,↓hcl,↓hf,↓hB,List.length_map,go_sem,seval,aq])
    try simp[trim,V.refs,L.refs,Box.refs,Dsk.l,hx0]
   | true =>
    obtain⟨B,hB⟩:=hdo (.cells [.d (.l (fl.map Fil.enc)),.d (.i .i64 cp),.d (.b true),.d (.i .i64 lf),.d (.b false)]) (.cells [.ns,.d (.i .i64 0),.d (.b false),.d (.i .i64 0),.d (.b false)]);have hB:=hB rfl rfl;by_cases hz:lf=0
    ·subst hz;(simp(disch:=first|decide|omega|(intros;exact rfl)|simp only[aa]) only[y0,Dsk.l,↓hcl,↓hf,↓hB,List.length_map,go_sem,seval,aq])
     try simp[trim,V.refs,L.refs,Box.refs,Dsk.l,hx0]
    ·(simp(disch:=first|decide|omega|(intros;exact rfl)|simp only[aa]) only[y0,Dsk.l,↓hcl,↓hf,↓hB,List.length_map,hz,go_sem,seval,aq])
     try simp[trim,V.refs,L.refs,Box.refs,Dsk.l,hx0,hz]
  ·obtain⟨B,hB⟩:=hdo (.cells [.d (.l (fl.map Fil.enc)),.d (.i .i64 cp),.d (.b ar),.d (.i .i64 lf),.d (.b false)]) (.cells [.ns,.d (.i .i64 0),.d (.b false),.d (.i .i64 0),.d (.b false)]);have hB:=hB rfl rfl;(simp(disch:=first|decide|omega|(intros;exact rfl)|simp only[aa]) only[y0,Dsk.l,↓hcl,↓hf,↓hB,List.length_map,he,go_sem,seval,aq])
   try simp[trim,V.refs,L.refs,Box.refs,Dsk.l,hx0,he]
set_option maxRecDepth 8000 in
set_option maxHeartbeats 2000000 in
theorem Jm (d:Dsk) (hl:d.files.length<=1000000) (hs:srt d.files) (hL:0<=d.left∧d.left<9223372036854775808) (n:Txt) (g:Nat) (x0:List L) (hx0:x0.flatMap L.refs=[]) (x1:List L) (hx1:x1.flatMap L.refs=[]) (fs:List Fil) (e:Int)
  (hdo:∀ D R:Box,∃ B,D=.cells d.l->d.down=false->az call g [.one (.sl 5 3 0 d.files.length),vi (aw d.files n:Nat),vb (bz d.files n),.one (.p 0 0),.one (.p 1 0)] [(.cells x0),(.cells x1),D,R,.dead,.arr 3 (d.files.map Fil.enc) 0]=some (.tup [(false,[.d (.l (fs.map Fil.enc))]),(false,[.d (.i .i64 e)])],[(.cells x0),(.cells x1),D,R,.dead,B])) :
  call 86 [.agg d.l,vs n,.one (.f g [0,1])] [(.cells x0),(.cells x1)]=some (.tup [(true,(au d (fs,e)).1.l),(false,[.d (.i .i64 (au d (fs,e)).2)])],[(.cells x0),(.cells x1)]):=by
 apply ai Oz rfl;have hcl:=LG (d.files.map Fil.enc) (bH Fil.len _) (by simp;omega) (by simp;omega)
 have hf:∀ D R:Box,az call 48 [.one (.sl 5 3 0 d.files.length),vs n] [(.cells x0),(.cells x1),D,R,.dead,.arr 3 (d.files.map Fil.enc) 0]=some (cE d.files n,[(.cells x0),(.cells x1),D,R,.dead,.arr 3 (d.files.map Fil.enc) 0]):=fun D R =>
  aU (ids:=[5]) rfl rfl rfl (oB d.files hl hs n) rfl
 unfold cE at hf;obtain⟨fl,cp,ar,lf,dn⟩:=d;simp only at *;unfold au;cases dn with
 | true =>
  (simp(disch:=first|decide|omega|(intros;exact rfl)|simp only[aa]) only[y0,Dsk.l,go_sem,seval,aq])
  try simp[trim,V.refs,L.refs,Box.refs,Dsk.l,hx0,hx1]
 | false =>
  by_cases he:e=0
  ·subst he;cases ar with
   | false =>
    obtain⟨B,hB⟩:=hdo (.cells [.d (.l (fl.map Fil.enc)),.d (.i .i64 cp),.d (.b false),.d (.i .i64 lf),.d (.b false)]) (.cells [.ns,.d (.i .i64 0),.d (.b false),.d (.i .i64 0),.d (.b false)]);have hB:=hB rfl rfl;(simp(disch:=first|decide|omega|(intros;exact rfl)|simp only[aa]) only[y0,Dsk.l,↓hcl,↓hf,↓hB,List.length_map,go_sem,seval,aq])
    try simp[trim,V.refs,L.refs,Box.refs,Dsk.l,hx0,hx1]
   | true =>
    obtain⟨B,hB⟩:=hdo (.cells [.d (.l (fl.map Fil.enc)),.d (.i .i64 cp),.d (.b true),.d (.i .i64 lf),.d (.b false)]) (.cells [.ns,.d (.i .i64 0),.d (.b false),.d (.i .i64 0),.d (.b false)]);have hB:=hB rfl rfl;by_cases hz:lf=0
    ·subst hz;(simp(disch:=first|decide|omega|(intros;exact rfl)|simp only[aa]) only[y0,Dsk.l,↓hcl,↓hf,↓hB,List.length_map,go_sem,seval,aq])
     try simp[trim,V.refs,L.refs,Box.refs,Dsk.l,hx0,hx1]
    ·(simp(disch:=first|decide|omega|(intros;exact rfl)|simp only[aa]) only[y0,Dsk.l,↓hcl,↓hf,↓hB,List.length_map,hz,go_sem,seval,aq])
     try simp[trim,V.refs,L.refs,Box.refs,Dsk.l,hx0,hx1,hz]
  ·obtain⟨B,hB⟩:=hdo (.cells [.d (.l (fl.map Fil.enc)),.d (.i .i64 cp),.d (.b ar),.d (.i .i64 lf),.d (.b false)]) (.cells [.ns,.d (.i .i64 0),.d (.b false),.d (.i .i64 0),.d (.b false)]);have hB:=hB rfl rfl;(simp(disch:=first|decide|omega|(intros;exact rfl)|simp only[aa]) only[y0,Dsk.l,↓hcl,↓hf,↓hB,List.length_map,he,go_sem,seval,aq])
   try simp[trim,V.refs,L.refs,Box.refs,Dsk.l,hx0,hx1,he]
def gC (l:List Fil) (k:Nat) (f:Fil):List Fil:=l.take k++f::l.drop k
def bP (l:List Fil) (n:Txt):List Fil × Int:=if dE n=true then(if bz l n=true then([],8) else(gC l (aw l n) ⟨n,[],0⟩,0)) else([],1)
theorem bL {l:List Fil} {n:Txt} (h:bz l n=true):∃ hp:aw l n<l.length,l[aw l n].name=n:=by
 unfold bz at h;split at h
 ·rename_i f hf;obtain⟨hp,rfl⟩:=List.getElem?_eq_some_iff.1 hf;exact⟨hp,by simpa using h⟩
 ·cases h
theorem wI (l:List Fil) (k:Nat) (f:Fil):(l.map Fil.enc).take k++f.enc::(l.map Fil.enc).drop k=(gC l k f).map Fil.enc:=by simp[gC]
theorem pI (ρ:Nat->Option Nat) (xs:List L):Box.ren ρ (.cells xs)=.cells (xs.map (L.ren ρ)):=rfl
def lD (fs:List Fil) (e:Int):V:=.tup [(false,[.d (.l (fs.map Fil.enc))]),(false,[.d (.i .i64 e)])]
theorem wF (l:List Fil) (k:Nat) (f:Fil) (h:k<=l.length):(gC l k f).length=l.length+1:=by simp[gC];omega
set_option maxRecDepth 8000 in
theorem vR (l:List Fil) (hl:l.length<=1000000) (n:Txt):∃ B:Box,(∀ ρ,B.ren ρ=B)∧call 121 [.one (.sl 0 3 0 l.length),vi (aw l n:Nat),vb (bz l n),.one (.p 1 0)] [.arr 3 (l.map Fil.enc) 0,.cells [.d (.s n)]]=some (lD (bP l n).1 (bP l n).2,[B,.cells [.d (.s n)]]):=by
 have hn:=sh n;unfold bP lD;cases c:dE n with
 | false =>
  refine⟨.arr 3 (l.map Fil.enc) 0,fun _=>rfl,?_⟩
  apply ai KY rfl;rw[c] at hn;(simp(disch:=first|decide|omega|(intros;exact rfl)|simp only[aa]) only[IB,hn,go_sem,seval,aq])
  try simp[trim,V.refs,L.refs,Box.refs]
 | true =>
  rw[c] at hn;cases c2:bz l n with
  | true =>
   refine⟨.arr 3 (l.map Fil.enc) 0,fun _=>rfl,?_⟩
   apply ai KY rfl;(simp(disch:=first|decide|omega|(intros;exact rfl)|simp only[aa]) only[IB,hn,go_sem,seval,aq])
   try simp[trim,V.refs,L.refs,Box.refs]
  | false =>
   refine⟨.dead,fun _=>rfl,?_⟩
   apply ai KY rfl;have hp:=nK l n;have hi0:=F1 (l:=lib) (an:=aH bJ) (P:=Tryz.prog) (f:=123) (k:=3) (bytes:=40) rfl rfl (l.map Fil.enc) (Fil.enc ⟨n,[],0⟩) (aw l n) 0 rfl (by simpa using hp) (by simp;omega) (by simp;omega)
   rw[wI,List.length_map] at hi0;have hi:∀ C:Box,az call 123 [.one (.sl 0 3 0 l.length),vi (aw l n:Nat),.one (.sl 2 3 0 1)] [.arr 3 (l.map Fil.enc) 0,C,.arr 3 [[.s n,.s [],.i .i64 0]] 0]=some (.one (.sl 3 3 0 (l.length+1)),[.dead,C,.arr 3 [[.s n,.s [],.i .i64 0]] 0,.arr 3 ((gC l (aw l n) ⟨n,[],0⟩).map Fil.enc) 0]):=fun C =>
    aU (ids:=[0,2]) rfl rfl rfl hi0 rfl
   have hll:=wF l (aw l n) ⟨n,[],0⟩ hp;generalize gC l (aw l n) ⟨n,[],0⟩=q at *;have htk:(q.map Fil.enc).take (l.length+1)=q.map Fil.enc:=List.take_of_length_le (by simp;omega)
   (simp(disch:=first|decide|omega|(intros;exact rfl)|simp only[aa]) only[IB,hn,↓hi,List.length_map,hll,htk,go_sem,seval,aq])
   try simp[trim,V.refs,L.refs,Box.refs]
def bu (r:Dsk × Int):V:=.tup [(true,r.1.l),(false,[.d (.i .i64 r.2)])]
structure Dsk.ok (d:Dsk):Prop where
 len:d.files.length<=1000000
 srt:srt d.files
 left:0<=d.left∧d.left<9223372036854775808
 cap:0<=d.cap∧d.cap<9223372036854775808
 used:usedF d.files<=1000000000000
theorem yW (d:Dsk) (hd:d.ok) (n:Txt):call 91 [.agg d.l,vs n] []=some (bu (au d (bP d.files n)),[]):=by
 apply ai QE rfl;have h0:=vQ d hd.len hd.srt hd.left n 121 [.d (.s n)] rfl (bP d.files n).1 (bP d.files n).2 (fun D R=>by
  obtain⟨B,hB,h⟩:=vR d.files hd.len n;exact⟨B,fun _ _=>aU (ids:=[4,0]) rfl rfl rfl h (by simp[bU,hB,lD,V.ren,L.ren,pI])⟩)
 have h:∀ D R:Box,az call 86 [.agg d.l,vs n,.one (.f 121 [1])] [D,.cells [.d (.s n)],R]=some (bu (au d (bP d.files n)),[D,.cells [.d (.s n)],R]):=fun D R =>
  aU (ids:=[1]) rfl rfl rfl h0 rfl
 generalize au d (bP d.files n)=r at *;obtain⟨⟨f2,cp2,ar2,lf2,dn2⟩,e2⟩:=r;obtain⟨fl,cp,ar,lf,dn⟩:=d;simp only[bu,Dsk.l] at h ⊢;(simp(disch:=first|decide|omega|(intros;exact rfl)|simp only[aa]) only[aS,Pw,↓h,go_sem,seval,aq])
 try simp[trim]
def mY (l:List Fil) (k:Nat) (g:Fil->Fil):List Fil:=match l[k]? with|some f=>l.set k (g f)|none=>l
theorem gL {l:List Fil} {k:Nat} (h:k<l.length) (g:Fil->Fil):mY l k g=l.set k (g l[k]):=by unfold mY;rw[List.getElem?_eq_getElem h]
theorem vM (l:List Fil) (k:Nat) (g:Fil->Fil):(mY l k g).length=l.length:=by unfold mY;split <;> simp
def bV (l:List Fil) (cap:Int) (n x:Txt):List Fil × Int:=if bz l n=true then(if 0<cap∧cap-(usedF l:Nat)<x.length then([],9) else(mY l (aw l n) (fun f=>{ f with data:=f.data++x }),0)) else([],7)
def cJ (l:List Fil) (n:Txt):List Fil × Int:=if bz l n=true then(mY l (aw l n) (fun f=>{ f with sure:=f.data.length }),0) else([],7)
def ef (l:List Fil) (k:Nat):List Fil:=l.take k++l.drop (k+1)
def bZ (l:List Fil) (n:Txt):List Fil × Int:=if bz l n=true then(ef l (aw l n),0) else([],7)
theorem mX (l:List Fil) (k:Nat) (h:k<l.length):l[k].data.length<=usedF l:=by
 have e:l=l.take k++([l[k]]++l.drop (k+1)):=by rw[List.singleton_append,<- List.drop_eq_getElem_cons h,List.take_append_drop]
 have:usedF l=usedF (l.take k)+(usedF [l[k]]+usedF (l.drop (k+1))):=by
  rw[<- cu,<- cu,<- e]
 rw[gk] at this;omega
theorem Fil.ix1 (f:Fil):f.enc[1]?=some (.s f.data):=Eq.trans rfl rfl
theorem Fil.ix2 (f:Fil):f.enc[2]?=some (.i .i64 f.sure):=Eq.trans rfl rfl
set_option maxRecDepth 8000 in
set_option maxHeartbeats 1000000 in
theorem vI (d:Dsk) (hd:d.ok) (n x:Txt) (hx:x.length<=1000000000000):∃ B:Box,(∀ ρ,B.ren ρ=B)∧call 128 [.one (.sl 0 3 0 d.files.length),vi (aw d.files n:Nat),vb (bz d.files n),.one (.p 1 0),.one (.p 2 0)] [.arr 3 (d.files.map Fil.enc) 0,.cells d.l,.cells [.d (.s x)]]=some (lD (bV d.files d.cap n x).1 (bV d.files d.cap n x).2,[B,.cells d.l,.cells [.d (.s x)]]):=by
 have hu:=CC d hd.len hd.used;have hub:=hd.used;have hc:=hd.cap;have hln:=hd.len;unfold bV lD;obtain⟨l,cp,ar,lf,dn⟩:=d;simp only at hu hub hc hln ⊢;cases c:bz l n with
 | false =>
  refine⟨.arr 3 (l.map Fil.enc) 0,fun _=>rfl,?_⟩
  apply ai KN rfl;(simp(disch:=first|decide|omega|(intros;exact rfl)|simp only[aa]) only[GP,go_sem,seval,aq])
  try simp[trim,V.refs,L.refs,Box.refs,Dsk.l]
 | true =>
  obtain⟨hp,hnm⟩:=bL c;obtain⟨k,hk⟩:∃ k,k=aw l n:=⟨_,rfl⟩;rw[gL hp];simp only[<- hk] at hp hnm ⊢;by_cases c1:0<cp∧cp-(usedF l:Nat)<x.length
  ·refine⟨.arr 3 (l.map Fil.enc) 0,fun _=>rfl,?_⟩
   apply ai KN rfl;obtain⟨c2,c3⟩:=c1;have hw:IntKind.i64.wrap (cp-((usedF l:Nat):Int))=cp-((usedF l:Nat):Int):=gI (by omega)
   have h2:(cp-((usedF l:Nat):Int)<((x.length:Nat):Int))=True:=eq_true c3;simp only[Dsk.l] at hu;(simp(disch:=first|decide|omega|(intros;exact rfl)|simp only[aa]) only[GP,Dsk.l,hu,hw,c2,h2,go_sem,seval,aq])
   try simp[trim,V.refs,L.refs,Box.refs,Dsk.l,c2,c3]
  ·have hle:=mX l k hp;have g1:(l.map Fil.enc)[k]?=some l[k].enc:=by simp[hp]
   have hset:(l.map Fil.enc).set k (Fil.enc { l[k] with data:=l[k].data++x })=(l.set k { l[k] with data:=l[k].data++x }).map Fil.enc:=by rw[List.map_set]
   have hup:=Fil.up1 l[k] (l[k].data++x);have hlen:l[k].data.length+x.length<=9223372036854775807:=by omega
   refine⟨.arr 3 ((l.set k { l[k] with data:=l[k].data++x }).map Fil.enc) l.length,fun _=>rfl,?_⟩
   apply ai KN rfl;have htk:((l.set k { l[k] with data:=l[k].data++x }).map Fil.enc).take l.length=(l.set k { l[k] with data:=l[k].data++x }).map Fil.enc:=List.take_of_length_le (by simp)
   have hll:((l.set k { l[k] with data:=l[k].data++x }).map Fil.enc).length=l.length:=by simp
   by_cases c2:0<cp
   ·have c3:¬ cp-(usedF l:Nat)<x.length:=fun h=>c1 ⟨c2,h⟩
    have hw:IntKind.i64.wrap (cp-((usedF l:Nat):Int))=cp-((usedF l:Nat):Int):=gI (by omega)
    simp only[Dsk.l] at hu;(simp(disch:=first|decide|omega|(intros;exact rfl)|simp only[aa]) only[GP,Dsk.l,hu,hw,c2,c3,g1,Fil.len,Fil.at1,Fil.ix1,hup,hset,hll,htk,hlen,go_sem,seval,aq])
    try simp[trim,V.refs,L.refs,Box.refs,Dsk.l,c2,c3]
   ·(simp(disch:=first|decide|omega|(intros;exact rfl)|simp only[aa]) only[GP,Dsk.l,c2,g1,Fil.len,Fil.at1,Fil.ix1,hup,hset,hll,htk,hlen,go_sem,seval,aq])
    try simp[trim,V.refs,L.refs,Box.refs,Dsk.l,c2]
theorem yU (d:Dsk) (hd:d.ok) (n x:Txt) (hx:x.length<=1000000000000):call 96 [.agg d.l,vs n,vs x] []=some (bu (au d (bV d.files d.cap n x)),[]):=by
 apply ai Qx rfl;have hrf:d.l.flatMap L.refs=[]:=rfl;have h0:=Jm d hd.len hd.srt hd.left n 128 d.l hrf [.d (.s x)] rfl (bV d.files d.cap n x).1 (bV d.files d.cap n x).2 (fun D R=>by
  obtain⟨B,hB,h⟩:=vI d hd n x hx;exact⟨B,fun _ _=>aU (ids:=[5,0,1]) rfl rfl rfl h (by simp[bU,hB,lD,V.ren,L.ren,pI,Dsk.l])⟩)
 have h:∀ D R:Box,az call 86 [.agg d.l,vs n,.one (.f 128 [0,1])] [.cells d.l,.cells [.d (.s x)],R]=some (bu (au d (bV d.files d.cap n x)),[.cells d.l,.cells [.d (.s x)],R]):=fun D R =>
  aU (ids:=[0,1]) rfl rfl rfl h0 rfl
 have h:=h .dead;generalize au d (bV d.files d.cap n x)=r at *;obtain⟨⟨f2,cp2,ar2,lf2,dn2⟩,e2⟩:=r;obtain⟨fl,cp,ar,lf,dn⟩:=d;simp only[bu,Dsk.l] at h ⊢;(simp(disch:=first|decide|omega|(intros;exact rfl)|simp only[aa]) only[aS,PA,↓h,go_sem,seval,aq])
 try simp[trim]
set_option maxRecDepth 8000 in
theorem Ar (l:List Fil) (hl:l.length<=1000000) (hu:usedF l<=1000000000000) (n:Txt):∃ B:Box,(∀ ρ,B.ren ρ=B)∧call 109 [.one (.sl 0 3 0 l.length),vi (aw l n:Nat),vb (bz l n)] [.arr 3 (l.map Fil.enc) 0]=some (lD (cJ l n).1 (cJ l n).2,[B]):=by
 unfold cJ lD;cases c:bz l n with
 | false =>
  refine⟨.arr 3 (l.map Fil.enc) 0,fun _=>rfl,?_⟩
  apply ai M3 rfl;(simp(disch:=first|decide|omega|(intros;exact rfl)|simp only[aa]) only[Kn,go_sem,seval,aq])
  try simp[trim,V.refs,L.refs,Box.refs]
 | true =>
  obtain⟨hp,hnm⟩:=bL c;obtain⟨k,hk⟩:∃ k,k=aw l n:=⟨_,rfl⟩;rw[gL hp];simp only[<- hk] at hp hnm ⊢;have hle:=mX l k hp;have g1:(l.map Fil.enc)[k]?=some l[k].enc:=by simp[hp]
  have hset:(l.map Fil.enc).set k (Fil.enc { l[k] with sure:=(l[k].data.length:Nat) })=(l.set k { l[k] with sure:=(l[k].data.length:Nat) }).map Fil.enc:=by rw[List.map_set]
  have hup:=Fil.up2 l[k] (l[k].data.length:Nat);refine⟨.arr 3 ((l.set k { l[k] with sure:=(l[k].data.length:Nat) }).map Fil.enc) l.length,fun _=>rfl,?_⟩
  apply ai M3 rfl;have htk:((l.set k { l[k] with sure:=(l[k].data.length:Nat) }).map Fil.enc).take l.length=(l.set k { l[k] with sure:=(l[k].data.length:Nat) }).map Fil.enc:=List.take_of_length_le (by simp)
  have hll:((l.set k { l[k] with sure:=(l[k].data.length:Nat) }).map Fil.enc).length=l.length:=by simp
  (simp(disch:=first|decide|omega|(intros;exact rfl)|simp only[aa]) only[Kn,g1,Fil.len,Fil.at1,Fil.ix1,Fil.ix2,hup,hset,hll,htk,go_sem,seval,aq])
  try simp[trim,V.refs,L.refs,Box.refs]
theorem pv (d:Dsk) (hd:d.ok) (n:Txt):call 59 [.agg d.l,vs n] []=some (bu (au d (cJ d.files n)),[]):=by
 apply ai Qq rfl;have h0:=Ch d hd.len hd.srt hd.left n 109 (cJ d.files n).1 (cJ d.files n).2 (fun D R=>by
  obtain⟨B,hB,h⟩:=Ar d.files hd.len hd.used n;exact⟨B,fun _ _=>aU (ids:=[3]) rfl rfl rfl h (by simp[bU,hB,lD,V.ren,L.ren,pI])⟩)
 have h:∀ H:Hp,az call 86 [.agg d.l,vs n,.one (.f 109 [])] H=some (bu (au d (cJ d.files n)),H):=fun H=>callIso_pure rfl h0 rfl
 generalize au d (cJ d.files n)=r at *;obtain⟨⟨f2,cp2,ar2,lf2,dn2⟩,e2⟩:=r;obtain⟨fl,cp,ar,lf,dn⟩:=d;simp only[bu,Dsk.l] at h ⊢;(simp(disch:=first|decide|omega|(intros;exact rfl)|simp only[aa]) only[aS,Pp,↓h,go_sem,seval,aq])
 try simp[trim]
theorem Bp (l:List Fil) (k:Nat):(l.map Fil.enc).take k++(l.map Fil.enc).drop (k+1)=(ef l k).map Fil.enc:=by simp[ef]
theorem n8 (l:List Fil) (k:Nat) (h:k<l.length):(ef l k).length=l.length-1:=by simp[ef];omega
set_option maxRecDepth 8000 in
theorem vS (l:List Fil) (hl:l.length<=1000000) (n:Txt):∃ B:Box,(∀ ρ,B.ren ρ=B)∧call 87 [.one (.sl 0 3 0 l.length),vi (aw l n:Nat),vb (bz l n)] [.arr 3 (l.map Fil.enc) 0]=some (lD (bZ l n).1 (bZ l n).2,[B]):=by
 unfold bZ lD;cases c:bz l n with
 | false =>
  refine⟨.arr 3 (l.map Fil.enc) 0,fun _=>rfl,?_⟩
  apply ai PG rfl;(simp(disch:=first|decide|omega|(intros;exact rfl)|simp only[aa]) only[ON,go_sem,seval,aq])
  try simp[trim,V.refs,L.refs,Box.refs]
 | true =>
  obtain⟨hp,hnm⟩:=bL c;refine⟨.dead,fun _=>rfl,?_⟩
  apply ai PG rfl;have hd0:=Ep (l:=lib) (an:=aH bJ) (P:=Tryz.prog) (f:=88) (k:=3) rfl rfl rfl (l.map Fil.enc) (aw l n) (by simpa using hp) (by simp;omega)
  rw[Bp,List.length_map] at hd0;have hi:az call 88 [.one (.sl 0 3 0 l.length),vi (aw l n:Nat),.one (.d (.i .i64 (((aw l n:Nat):Int)+1)))] [.arr 3 (l.map Fil.enc) 0]=some (.one (.sl 1 3 0 (l.length-1)),[.dead,.arr 3 ((ef l (aw l n)).map Fil.enc) 0]) :=
   aU (ids:=[0]) rfl rfl rfl hd0 rfl
  have hll:=n8 l (aw l n) hp;generalize ef l (aw l n)=q at *;have htk:(q.map Fil.enc).take (l.length-1)=q.map Fil.enc:=List.take_of_length_le (by simp;omega)
  (simp(disch:=first|decide|omega|(intros;exact rfl)|simp only[aa]) only[ON,↓hi,List.length_map,hll,htk,go_sem,seval,aq])
  try simp[trim,V.refs,L.refs,Box.refs]
theorem lK (d:Dsk) (hd:d.ok) (n:Txt):call 50 [.agg d.l,vs n] []=some (bu (au d (bZ d.files n)),[]):=by
 apply ai Q7 rfl;have h0:=Ch d hd.len hd.srt hd.left n 87 (bZ d.files n).1 (bZ d.files n).2 (fun D R=>by
  obtain⟨B,hB,h⟩:=vS d.files hd.len n;exact⟨B,fun _ _=>aU (ids:=[3]) rfl rfl rfl h (by simp[bU,hB,lD,V.ren,L.ren,pI])⟩)
 have h:∀ H:Hp,az call 86 [.agg d.l,vs n,.one (.f 87 [])] H=some (bu (au d (bZ d.files n)),H):=fun H=>callIso_pure rfl h0 rfl
 generalize au d (bZ d.files n)=r at *;obtain⟨⟨f2,cp2,ar2,lf2,dn2⟩,e2⟩:=r;obtain⟨fl,cp,ar,lf,dn⟩:=d;simp only[bu,Dsk.l] at h ⊢;(simp(disch:=first|decide|omega|(intros;exact rfl)|simp only[aa]) only[aS,PU,↓h,go_sem,seval,aq])
 try simp[trim]
theorem kP {l:List Fil} (h:srt l) (k:Nat):srt (ef l k):=by
 have:(ef l k).Sublist l:=by
  unfold ef;have e:l=l.take k++l.drop k:=(List.take_append_drop k l).symm;conv=>rhs;rw[e]
  exact List.Sublist.append (List.Sublist.refl _) (by rw[show k+1=k+1 from rfl,<- List.drop_drop];exact List.drop_sublist 1 _)
 exact List.Pairwise.sublist this h
def iu (l:List Fil) (f:Fil):List Fil:=if bz l f.name=true then l.set (aw l f.name) f else gC l (aw l f.name) f
def dj (l:List Fil) (k:Nat) (n:Txt):Fil:=match l[k]? with|some f=>{ f with name:=n }|none=>⟨n,[],0⟩
def iy (l:List Fil) (n t:Txt):List Fil × Int:=if bz l n=true then(if dE t=true then(iu (ef l (aw l n)) (dj l (aw l n) t),0) else([],1)) else([],7)
theorem wY (l:List Fil) (k:Nat) (n:Txt):(dj l k n).name=n:=by unfold dj;split <;> rfl
theorem Dg (l:List Fil) (f:Fil):(iu l f).length<=l.length+1:=by
 unfold iu;split
 ·simp
 ·rw[wF _ _ _ (nK _ _)];omega
set_option maxRecDepth 8000 in
set_option maxHeartbeats 1000000 in
theorem wL (l:List Fil) (hl:l.length<=1000000) (hs:srt l) (n t:Txt):∃ B:Box,(∀ ρ,B.ren ρ=B)∧call 131 [.one (.sl 0 3 0 l.length),vi (aw l n:Nat),vb (bz l n),.one (.p 1 0)] [.arr 3 (l.map Fil.enc) 0,.cells [.d (.s t)]]=some (lD (iy l n t).1 (iy l n t).2,[B,.cells [.d (.s t)]]):=by
 have hn:=sh t;unfold iy lD;cases c:bz l n with
 | false =>
  refine⟨.arr 3 (l.map Fil.enc) 0,fun _=>rfl,?_⟩
  apply ai Ks rfl;(simp(disch:=first|decide|omega|(intros;exact rfl)|simp only[aa]) only[G5,go_sem,seval,aq])
  try simp[trim,V.refs,L.refs,Box.refs]
 | true =>
  obtain⟨hp,hnm⟩:=bL c;cases cn:dE t with
  | false =>
   refine⟨.arr 3 (l.map Fil.enc) 0,fun _=>rfl,?_⟩
   apply ai Ks rfl;rw[cn] at hn;(simp(disch:=first|decide|omega|(intros;exact rfl)|simp only[aa]) only[G5,hn,go_sem,seval,aq])
   try simp[trim,V.refs,L.refs,Box.refs]
  | true =>
   rw[cn] at hn;refine⟨.dead,fun _=>rfl,?_⟩
   apply ai Ks rfl;have hna:dj l (aw l n) t={ l[aw l n] with name:=t }:=by unfold dj;rw[List.getElem?_eq_getElem hp]
   have g1:(l.map Fil.enc)[aw l n]?=some l[aw l n].enc:=by simp[hp]
   have hd0:=Ep (l:=lib) (an:=aH bJ) (P:=Tryz.prog) (f:=88) (k:=3) rfl rfl rfl (l.map Fil.enc) (aw l n) (by simpa using hp) (by simp;omega)
   rw[Bp,List.length_map] at hd0;have hi:∀ C D:Box,az call 88 [.one (.sl 0 3 0 l.length),vi (aw l n:Nat),.one (.d (.i .i64 (((aw l n:Nat):Int)+1)))] [.arr 3 (l.map Fil.enc) 0,C,D]=some (.one (.sl 3 3 0 (l.length-1)),[.dead,C,D,.arr 3 ((ef l (aw l n)).map Fil.enc) 0]):=fun C D =>
    aU (ids:=[0]) rfl rfl rfl hd0 rfl
   have hll:=n8 l (aw l n) hp;have hsd:=kP hs (aw l n);obtain⟨f,hf⟩:∃ f,f=l[aw l n]:=⟨_,rfl⟩;rw[<- hf] at hna g1;rw[hna];have hlt:aw l n<l.length:=hp;generalize aw l n=p at *;generalize ef l p=q at *;have hfb:=oB q (by omega) hsd t
   rw[hll] at hfb;unfold cE at hfb;have hfi:∀ C D:Box,az call 48 [.one (.sl 3 3 0 (l.length-1)),vs t] [.dead,C,D,.arr 3 (q.map Fil.enc) 0]=some (.tup [(false,[.d (.i .i64 (aw q t:Nat))]),(false,[.d (.b (bz q t))])],[.dead,C,D,.arr 3 (q.map Fil.enc) 0]):=fun C D =>
    aU (ids:=[3]) rfl rfl rfl hfb rfl
   unfold iu;cases c2:bz q t with
   | true =>
    obtain⟨hp2,hnm2⟩:=bL c2;rw[c2] at hfi;have g2:(q.map Fil.enc)[aw q t]?=some q[aw q t].enc:=by simp[hp2]
    have hset:(q.map Fil.enc).set (aw q t) (Fil.enc { f with name:=t })=(q.set (aw q t) { f with name:=t }).map Fil.enc:=by rw[List.map_set]
    have hll2:((q.set (aw q t) { f with name:=t }).map Fil.enc).length=l.length-1:=by simp[hll]
    have htk:((q.set (aw q t) { f with name:=t }).map Fil.enc).take (l.length-1)=(q.set (aw q t) { f with name:=t }).map Fil.enc:=List.take_of_length_le (by omega)
    have hfe:Fil.enc { f with name:=t }=[.s t,.s f.data,.i .i64 f.sure]:=rfl
    have hfe2:f.enc=[.s f.name,.s f.data,.i .i64 f.sure]:=rfl;have hdr:q[aw q t].enc.drop 3=[]:=rfl;rw[hfe] at hset;rw[hfe2] at g1;(simp(disch:=first|decide|omega|(intros;exact rfl)|simp only[aa]) only[G5,hn,g1,↓hi,↓hfi,g2,hset,hll2,htk,Fil.len,List.map_cons,List.map_nil,hdr,List.append_nil,List.nil_append,List.length_cons,List.length_nil,go_sem,seval,aq])
    try simp[trim,V.refs,L.refs,Box.refs,c2]
   | false =>
    rw[c2] at hfi;have hp2:=nK q t;have hi0:=F1 (l:=lib) (an:=aH bJ) (P:=Tryz.prog) (f:=123) (k:=3) (bytes:=40) rfl rfl (q.map Fil.enc) (Fil.enc { f with name:=t }) (aw q t) 0 rfl (by simpa using hp2) (by simp;omega) (by simp;omega)
    rw[wI,List.length_map,hll] at hi0;have hil:=wF q (aw q t) { f with name:=t } hp2
    have hin:∀ C D:Box,az call 123 [.one (.sl 3 3 0 (l.length-1)),vi (aw q t:Nat),.one (.sl 4 3 0 1)] [.dead,C,D,.arr 3 (q.map Fil.enc) 0,.arr 3 [[.s t,.s f.data,.i .i64 f.sure]] 0]=some (.one (.sl 5 3 0 (l.length-1+1)),[.dead,C,D,.dead,.arr 3 [[.s t,.s f.data,.i .i64 f.sure]] 0,.arr 3 ((gC q (aw q t) { f with name:=t }).map Fil.enc) 0]):=fun C D =>
     aU (ids:=[3,4]) rfl rfl rfl hi0 rfl
    generalize gC q (aw q t) { f with name:=t }=z at *
    have htk:(z.map Fil.enc).take (l.length-1+1)=z.map Fil.enc:=List.take_of_length_le (by simp;omega)
    have hzl:z.length=l.length-1+1:=by omega
    have hfe2:f.enc=[.s f.name,.s f.data,.i .i64 f.sure]:=rfl;rw[hfe2] at g1;(simp(disch:=first|decide|omega|(intros;exact rfl)|simp only[aa]) only[G5,hn,g1,↓hi,↓hfi,↓hin,List.length_map,hzl,htk,Fil.len,List.map_cons,List.map_nil,List.append_nil,List.nil_append,List.length_cons,List.length_nil,go_sem,seval,aq])
    try simp[trim,V.refs,L.refs,Box.refs,c2]
theorem yR (d:Dsk) (hd:d.ok) (n t:Txt):call 100 [.agg d.l,vs n,vs t] []=some (bu (au d (iy d.files n t)),[]):=by
 apply ai N9 rfl;have h0:=vQ d hd.len hd.srt hd.left n 131 [.d (.s t)] rfl (iy d.files n t).1 (iy d.files n t).2 (fun D R=>by
  obtain⟨B,hB,h⟩:=wL d.files hd.len hd.srt n t;exact⟨B,fun _ _=>aU (ids:=[4,0]) rfl rfl rfl h (by simp[bU,hB,lD,V.ren,L.ren,pI])⟩)
 have h:∀ D R:Box,az call 86 [.agg d.l,vs n,.one (.f 131 [1])] [D,.cells [.d (.s t)],R]=some (bu (au d (iy d.files n t)),[D,.cells [.d (.s t)],R]):=fun D R =>
  aU (ids:=[1]) rfl rfl rfl h0 rfl
 generalize au d (iy d.files n t)=r at *;obtain⟨⟨f2,cp2,ar2,lf2,dn2⟩,e2⟩:=r;obtain⟨fl,cp,ar,lf,dn⟩:=d;simp only[bu,Dsk.l] at h ⊢;(simp(disch:=first|decide|omega|(intros;exact rfl)|simp only[aa]) only[aS,MG,↓h,go_sem,seval,aq])
 try simp[trim]
def NL (c:Nat->Int):List L:=(List.range 14).map fun j=>.d (.i .u8 (c j))
theorem AD (c:Nat->Int):(NL c).length=14:=by simp[NL]
theorem Hx (c:Nat->Int) (n:Nat) (x:Int) (h:n<14):(NL c).take n++[L.d (.i .u8 x)]++(NL c).drop (n+1)=NL (fun j=>if j=n then x else c j):=by
 rw[List.append_assoc,List.singleton_append];apply List.ext_getElem?;intro j;have hl:((NL c).take n).length=n:=by rw[List.length_take,AD];omega
 by_cases hj:j<14
 ·have e:∀ c:Nat->Int,(NL c)[j]?=some (.d (.i .u8 (c j))):=fun c=>by simp[NL,hj]
  rw[e];rcases Nat.lt_trichotomy j n with h1|h1|h1
  ·rw[List.getElem?_append_left (by omega),List.getElem?_take,if_pos h1,e,if_neg (by omega)]
  ·subst h1;rw[List.getElem?_append_right (by omega),hl,Nat.sub_self,if_pos rfl];rfl
  ·rw[List.getElem?_append_right (by omega),hl,if_neg (by omega)]
   obtain⟨m,hm⟩:∃ m,j-n=m+1:=⟨j-n-1,by omega⟩
   rw[hm,List.getElem?_cons_succ,List.getElem?_drop,show n+1+m=j by omega,e]
 ·rw[List.getElem?_eq_none (by simp[NL];omega),List.getElem?_eq_none (by simp[NL];omega)]
def jk (n j:Nat):Nat:=48+n / 10 ^ (13-j) % 10
def eU (c:UInt8) (n:Nat):Txt:=c::(List.range 13).map fun j=>UInt8.ofNat (jk n (j+1))
def cF (n i:Nat) (j:Nat):Int:=if j<=i then 0 else((jk n j:Nat):Int)
theorem HI (n i:Nat) (h:1<=i∧i<=13):(fun j=>if j=i then(48+((n / 10 ^ (13-i) % 10:Nat):Int)) else cF n i j)=cF n (i-1):=by
 funext j
 unfold cF jk;by_cases h1:j=i
 ·subst h1;rw[if_pos rfl,if_neg (by omega)];omega
 ·rw[if_neg h1];by_cases h2:j<=i
  ·rw[if_pos h2,if_pos (by omega)]
  ·rw[if_neg h2,if_neg (by omega)]
theorem I5:[L.d (.i .u8 0),.d (.i .u8 0),.d (.i .u8 0),.d (.i .u8 0),.d (.i .u8 0),.d (.i .u8 0),.d (.i .u8 0),.d (.i .u8 0),.d (.i .u8 0),.d (.i .u8 0),.d (.i .u8 0),.d (.i .u8 0),.d (.i .u8 0),.d (.i .u8 0)]=NL (fun _=>0):=rfl
theorem Ni (n:Nat):NL (fun _=>0)=NL (cF n 13):=by
 unfold NL;apply List.map_congr_left;intro j hj;rw[List.mem_range] at hj;unfold cF;rw[if_pos (by omega)]
theorem Gx (n i:Nat) (h:1<=i∧i<=13):n / 10 ^ (13-i) / 10=n / 10 ^ (13-(i-1)):=by
 rw[Nat.div_div_eq_div_mul,<- Nat.pow_succ];congr 2;omega
set_option maxRecDepth 8000 in
set_option maxHeartbeats 1000000 in
theorem uZ (c:UInt8) (n:Nat) (hn:n<=1099511627776):call 92 [vk .u8 ((c.toNat:Nat):Int),vi n] []=some (vs (eU c n),[]):=by
 apply ai Qj rfl;obtain⟨Z,hZ⟩:∃ Z:V × Hp,Z=(vs (eU c n),[]):=⟨_,rfl⟩;rw[<- hZ];have hz:=I5;(simp(disch:=first|decide|omega|(intros;exact rfl)|simp only[aa]) only[PQ,hz,Ni n,go_sem,seval,aq])
 refine aI (m:=0) (σ:=Nat) (fun i=>i) (fun i=>i<=13) (fun i=>[vk .u8 ((c.toNat:Nat):Int),vi (n / 10 ^ (13-i):Nat),V.one (.p 0 0),vi i]) (fun i=>[.cells (NL (cF n i))]) (fun _=>Z) ?_ 13 (Nat.le_refl _) _ _ ?_
 rotate_left
 ·have e:n / 10 ^ (13-13)=n:=by simp
  rw[e];exact cG
 intro i hi R hR;by_cases c1:0<i
 ·have hR':=hR (i-1) (by omega) (by omega)
  rw[<- HI n i (by omega),<- Gx n i (by omega)] at hR'
  obtain⟨q,hq⟩:∃ q,q=n / 10 ^ (13-i):=⟨_,rfl⟩;rw[<- hq] at hR' ⊢;have hqn:q<=n:=by rw[hq];exact Nat.div_le_self _ _
  have hm:((q:Nat):Int).tmod 10=((q % 10:Nat):Int):=by rw[Int.tmod_eq_emod_of_nonneg (by omega)];omega
  have hd:((q:Nat):Int).tdiv 10=((q / 10:Nat):Int):=by rw[Int.tdiv_eq_ediv_of_nonneg (by omega)];omega
  have hset:=Hx (cF n i) i (48+((q % 10:Nat):Int)) (by omega)
  have hsub:(i:Int)-1=((i-1:Nat):Int):=by omega
  (simp(disch:=first|decide|omega|(intros;exact rfl)|simp only[aa]) only[Eo,c1,hm,hd,hset,AD,Nat.mul_one,Nat.zero_add,hsub,go_sem,seval,aq])
  exact hR' _ _ cG
 ·have h0:i=0:=by omega
  subst h0;have hset:=Hx (cF n 0) 0 ((c.toNat:Nat):Int) (by decide)
  have hex:NL (fun j=>if j=0 then((c.toNat:Nat):Int) else cF n 0 j)=[.d (.i .u8 ((c.toNat:Nat):Int)),.d (.i .u8 (jk n 1:Nat)),.d (.i .u8 (jk n 2:Nat)),.d (.i .u8 (jk n 3:Nat)),.d (.i .u8 (jk n 4:Nat)),.d (.i .u8 (jk n 5:Nat)),.d (.i .u8 (jk n 6:Nat)),.d (.i .u8 (jk n 7:Nat)),.d (.i .u8 (jk n 8:Nat)),.d (.i .u8 (jk n 9:Nat)),.d (.i .u8 (jk n 10:Nat)),.d (.i .u8 (jk n 11:Nat)),.d (.i .u8 (jk n 12:Nat)),.d (.i .u8 (jk n 13:Nat))]:=rfl
  simp only[List.take_zero,List.nil_append] at hset;rw[hex] at hset;(simp(disch:=first|decide|omega|(intros;exact rfl)|simp only[aa]) only[Eo,c1,hset,AD,Nat.mul_one,Nat.zero_add,List.nil_append,fp,Int.toNat_natCast,List.map_cons,List.map_nil,UInt8.ofNat_toNat,go_sem,seval,aq])
  rw[hZ];try rfl
theorem Hh (n:Nat) (hn:n<=1099511627776):call 52 [vi n] []=some (vs (eU 115 n),[]):=by
 apply ai QV rfl;have h:=uZ 115 n hn;have e:(((115:UInt8).toNat:Nat):Int)=115:=rfl;rw[e] at h;(simp(disch:=first|decide|omega|(intros;exact rfl)|simp only[aa]) only[PV,h,go_sem,seval,aq])
 try simp[trim]
structure Man where
 ver:Int
 segs:List Int
 size:Int
 sum:Int
def eI (n:Int):List D:=[.i .i64 n]
theorem cY (n:Int):(eI n).length=1:=Eq.trans rfl rfl
theorem eN (n:Int):(eI n)[0]?=some (.i .i64 n):=Eq.trans rfl rfl
def Man.l (m:Man):List L:=[.d (.i .i64 m.ver),.d (.l (m.segs.map eI)),.d (.i .i64 m.size),.d (.i .u32 m.sum)]
def kT:Int->List Int->Bool
 | _,[]=>true
 | a,n::l=>decide (a<n∧n<=1099511627776) && kT n l
def manB (m:Man):Bool:=decide (1<=m.ver∧m.ver<=1099511627776∧1<=m.segs.length∧m.segs.length<=64) && (kT (-1) m.segs && (if m.segs.head?=some 0 then decide (m.size=0∧m.sum=0) else decide (0<m.size∧m.size<=65536)))
theorem uf {l:List Int} {i:Nat} (a:Int) (h:i<l.length):kT a (l.drop i)=(decide (a<l[i]∧l[i]<=1099511627776) && kT l[i] (l.drop (i+1))):=by
 rw[List.drop_eq_getElem_cons h];rfl
set_option maxRecDepth 8000 in
set_option maxHeartbeats 2000000 in
theorem jZ (m:Man) (hl:m.segs.length<=1000000):call 104 [.agg m.l] []=some (vb (manB m),[]):=by
 obtain⟨ver,segs,size,sum⟩:=m;unfold manB Man.l;simp only at hl ⊢;apply ai Om rfl;by_cases c1:1<=ver
 ·by_cases c2:ver<=1099511627776
  ·by_cases c3:1<=segs.length
   ·by_cases c4:segs.length<=64
    ·rw[decide_eq_true ⟨c1,c2,c3,c4⟩,Bool.true_and];obtain⟨Z,hZ⟩:∃ Z:V × Hp,Z=(vb (kT (-1) segs && (if segs.head?=some 0 then decide (size=0∧sum=0) else decide (0<size∧size<=65536))),[]):=⟨_,rfl⟩
     rw[<- hZ];(simp(disch:=first|decide|omega|(intros;exact rfl)|simp only[aa]) only[Dy,c1,c2,c3,c4,go_sem,seval,aq])
     refine aI (m:=0) (σ:=Nat × Int) (fun t=>segs.length-t.1) (fun t=>t.1<=segs.length∧kT (-1) segs=kT t.2 (segs.drop t.1)) (fun t=>[V.one (.p 0 0),vi t.2,vl (segs.map eI),vi segs.length,vi t.1])
      (fun _=>[.cells [.d (.i .i64 ver),.d (.l (segs.map eI)),.d (.i .i64 size),.d (.i .u32 sum)]]) (fun _=>Z) ?_ (0,-1) ⟨Nat.zero_le _,rfl⟩ _ _ ?_
     rotate_left
     ·exact cG
     rintro⟨i,a⟩ ⟨hi,hinc⟩ R hR;simp only at hi hinc ⊢;by_cases c5:i<segs.length
     ·have g1:(segs.map eI)[i]?=some (eI segs[i]):=by simp[c5]
      rw[uf a c5] at hinc;by_cases c6:segs[i]<=a
      ·have hd:decide (a<segs[i]∧segs[i]<=1099511627776)=false:=decide_eq_false (by omega)
       rw[hd,Bool.false_and] at hinc;rw[hinc,Bool.false_and] at hZ;(simp(disch:=first|decide|omega|(intros;exact rfl)|simp only[aa]) only[jX,g1,cY,eN,c6,go_sem,seval,aq])
       rw[hZ]
      ·by_cases c7:segs[i]<=1099511627776
       ·have hd:decide (a<segs[i]∧segs[i]<=1099511627776)=true:=decide_eq_true (by omega)
        rw[hd,Bool.true_and] at hinc;(simp(disch:=first|decide|omega|(intros;exact rfl)|simp only[aa]) only[jX,g1,cY,eN,c6,c7,go_sem,seval,aq])
        exact hR (i+1,segs[i]) (by simp only[];omega) ⟨by simp only[];omega,hinc⟩ _ _ cG
       ·have hd:decide (a<segs[i]∧segs[i]<=1099511627776)=false:=decide_eq_false (by omega)
        rw[hd,Bool.false_and] at hinc;rw[hinc,Bool.false_and] at hZ;(simp(disch:=first|decide|omega|(intros;exact rfl)|simp only[aa]) only[jX,g1,cY,eN,c6,c7,go_sem,seval,aq])
        rw[hZ]
     ·rw[List.drop_of_length_le (by omega)] at hinc
      have hinc2:kT (-1) segs=true:=hinc;rw[hinc2,Bool.true_and] at hZ;have g0:(segs.map eI)[0]?=some (eI segs[0]):=by rw[List.getElem?_map,List.getElem?_eq_getElem c3];rfl
      have hh:segs.head?=some segs[0]:=by rw[List.head?_eq_getElem?];simp
      rw[hh] at hZ;by_cases z:segs[0]=0
      ·rw[if_pos (by rw[z])] at hZ
       by_cases z2:size=0
       ·by_cases z3:sum=0
        ·(simp(disch:=first|decide|omega|(intros;exact rfl)|simp only[aa]) only[jX,c5,g0,cY,eN,z,z2,z3,go_sem,seval,aq])
         rw[hZ];simp[z2,z3]
        ·(simp(disch:=first|decide|omega|(intros;exact rfl)|simp only[aa]) only[jX,c5,g0,cY,eN,z,z2,z3,go_sem,seval,aq])
         rw[hZ];simp[z2,z3]
       ·(simp(disch:=first|decide|omega|(intros;exact rfl)|simp only[aa]) only[jX,c5,g0,cY,eN,z,z2,go_sem,seval,aq])
        rw[hZ];simp[z2]
      ·rw[if_neg (by simpa using z)] at hZ
       by_cases z2:0<size
       ·by_cases z3:size<=65536
        ·(simp(disch:=first|decide|omega|(intros;exact rfl)|simp only[aa]) only[jX,c5,g0,cY,eN,z,z2,z3,go_sem,seval,aq])
         rw[hZ];simp[z2,z3]
        ·(simp(disch:=first|decide|omega|(intros;exact rfl)|simp only[aa]) only[jX,c5,g0,cY,eN,z,z2,z3,go_sem,seval,aq])
         rw[hZ];simp[z2,z3]
       ·(simp(disch:=first|decide|omega|(intros;exact rfl)|simp only[aa]) only[jX,c5,g0,cY,eN,z,z2,go_sem,seval,aq])
        rw[hZ];simp[z2]
    ·rw[decide_eq_false (fun h=>c4 h.2.2.2),Bool.false_and]
     (simp(disch:=first|decide|omega|(intros;exact rfl)|simp only[aa]) only[Dy,c1,c2,c3,c4,go_sem,seval,aq])
     try simp[trim]
   ·rw[decide_eq_false (fun h=>c3 h.2.2.1),Bool.false_and]
    (simp(disch:=first|decide|omega|(intros;exact rfl)|simp only[aa]) only[Dy,c1,c2,c3,go_sem,seval,aq])
    try simp[trim]
  ·rw[decide_eq_false (fun h=>c2 h.2.1),Bool.false_and]
   (simp(disch:=first|decide|omega|(intros;exact rfl)|simp only[aa]) only[Dy,c1,c2,go_sem,seval,aq])
   try simp[trim]
 ·rw[decide_eq_false (fun h=>c1 h.1),Bool.false_and]
  (simp(disch:=first|decide|omega|(intros;exact rfl)|simp only[aa]) only[Dy,c1,go_sem,seval,aq])
  try simp[trim]
structure Man.ok (m:Man):Prop where
 len:m.segs.length<=1000000
 sum:0<=m.sum∧m.sum<4294967296
theorem dN {m:Man} (h:manB m=true):(1<=m.ver∧m.ver<=1099511627776)∧(1<=m.segs.length∧m.segs.length<=64)∧kT (-1) m.segs=true∧(0<=m.size∧m.size<=65536):=by
 unfold manB at h;simp only[Bool.and_eq_true,decide_eq_true_eq] at h;obtain⟨⟨h1,h2,h3,h4⟩,h5,h6⟩:=h;refine⟨⟨h1,h2⟩,⟨h3,h4⟩,h5,?_⟩;split at h6 <;> simp only[decide_eq_true_eq] at h6 <;> omega
theorem eB:∀ (l:List Int) (a:Int),kT a l=true->∀ n∈l,a<n∧n<=1099511627776
 | [],_,_,n,hn=>by cases hn
 | x::l,a,h,n,hn=>by
  simp only[kT,Bool.and_eq_true,decide_eq_true_eq] at h;rcases List.mem_cons.1 hn with rfl|hn
  ·exact h.1
  ·have:=eB l x h.2 n hn;omega
def ba (l:List Int):Txt:=l.flatMap fun n=>ah n.toNat
theorem kB (a b:List Int):ba (a++b)=ba a++ba b:=List.flatMap_append
theorem vt {n:Nat} (h:n<9223372036854775808):1<=(ah n).length∧(ah n).length<=9:=⟨fJ n,gP h⟩
theorem mU:∀ (l:List Int),(∀ n∈l,0<=n∧n<9223372036854775808)->(ba l).length<=9*l.length
 | [],_=>by simp[ba]
 | n::l,h=>by
  have ih:=mU l (fun x hx=>h x (List.mem_cons_of_mem _ hx))
  have:=(vt (n:=n.toNat) (by have:=h n (by simp);omega)).2
  have e:ba (n::l)=ah n.toNat++ba l:=rfl;rw[e,List.length_append,List.length_cons];omega
def gT (m:Man):iw:=BitVec.ofNat 32 m.sum.toNat
def bB (m:Man):Txt:=ba (m.ver::(m.segs.length:Int)::m.segs++[m.size])++cP (gT m)
def bC (m:Man):Txt:=aK (bB m)
theorem jz {m:Man} (h:manB m=true):1<=(bB m).length∧(bB m).length<=700:=by
 obtain⟨h1,h2,h3,h4⟩:=dN h;have hm:=eB _ _ h3;have hl:=mU (m.ver::(m.segs.length:Int)::m.segs++[m.size]) (by
  intro n hn;simp only[List.cons_append,List.mem_cons,List.mem_append,List.not_mem_nil,or_false] at hn;rcases hn with rfl|rfl|hn|rfl
  ·omega
  ·omega
  ·have:=hm n hn;omega
  ·omega)
 unfold bB;rw[List.length_append,gh];simp only[List.cons_append,List.length_cons,List.length_append,List.length_nil] at hl ⊢;omega
def bK (m:Man):Txt × Int:=if manB m=true then(bC m,0) else([],1)
set_option maxRecDepth 8000 in
set_option maxHeartbeats 2000000 in
theorem xc (m:Man) (hm:m.ok):call 93 [.agg m.l] []=some (.tup [(false,[.d (.s (bK m).1)]),(false,[.d (.i .i64 (bK m).2)])],[]):=by
 have hr:=jZ m hm.len;unfold bK;cases c:manB m with
 | false =>
  rw[c] at hr;apply ai PB rfl;simp only[Man.l] at hr;(simp(disch:=first|decide|omega|(intros;exact rfl)|simp only[aa]) only[NW,Man.l,hr,go_sem,seval,aq])
  try simp[trim]
 | true =>
  rw[c] at hr;have hb:=jz c;obtain⟨h1,h2,h3,h4⟩:=dN c;have hmem:=eB _ _ h3;have hsum:=hm.sum;have hf:call 126 [.one (.d (.i .u32 m.sum))] []=some (vs (cP (gT m)),[]):=by
   have:=pA (gT m);have e:(((gT m).toNat:Nat):Int)=m.sum:=by unfold gT;simp;omega
   rw[e] at this;exact this
  have hp:=tY (bB m) (by omega)
  unfold xo at hp;rw[if_pos ⟨hb.1,by omega⟩] at hp
  have q1:=HU (n:=m.ver) (by omega) (by omega)
  have q2:=HU (n:=(m.segs.length:Int)) (by omega) (by omega)
  rw[Int.toNat_natCast] at q2;have q3:=HU (n:=m.size) (by omega) (by omega)
  have l1:=(vt (n:=m.ver.toNat) (by omega)).2
  have l2:=(vt (n:=m.segs.length) (by omega)).2
  have l3:=(vt (n:=m.size.toNat) (by omega)).2
  unfold bC;have hbd:bB m=((ah m.ver.toNat++ah m.segs.length)++ba m.segs++ah m.size.toNat)++cP (gT m):=by
   unfold bB;simp[ba,List.append_assoc]
  rw[hbd] at hp hb ⊢;have h4l:=gh (gT m);generalize cP (gT m)=F4 at *;obtain⟨ver,segs,size,sum⟩:=m;simp only[Man.l] at *;apply ai PB rfl;obtain⟨W,hW⟩:∃ W:Txt,W=aK (((ah ver.toNat++ah segs.length)++ba segs++ah size.toNat)++F4):=⟨_,rfl⟩;rw[<- hW] at hp ⊢;have l12:(ah ver.toNat).length+(ah segs.length).length<=9223372036854775807:=by omega
  (simp(disch:=first|decide|omega|(intros;exact rfl)|simp only[aa]) only[NW,hr,q1,q2,l12,go_sem,seval,aq])
  refine aI (m:=0) (σ:=Nat) (fun i=>segs.length-i) (fun i=>i<=segs.length) (fun i=>[V.one (.p 0 0),vs ((ah ver.toNat++ah segs.length)++ba (segs.take i)),vl (segs.map eI),vi segs.length,vi i])
   (fun _=>[.cells [.d (.i .i64 ver),.d (.l (segs.map eI)),.d (.i .i64 size),.d (.i .u32 sum)]]) (fun _=>(V.tup [(false,[.d (.s W)]),(false,[.d (.i .i64 0)])],[])) ?_ 0 (Nat.zero_le _) _ _ ?_
  rotate_left
  ·have e:(ah ver.toNat++ah segs.length)++ba (segs.take 0)=ah ver.toNat++ah segs.length:=by simp[ba]
   rw[e];exact cG
  intro i hi R hR;have hln:=mU (segs.take i) (fun n hn=>by have:=hmem n (List.mem_of_mem_take hn);omega)
  have hti:(segs.take i).length=i:=by simp;omega
  rw[hti] at hln;by_cases c5:i<segs.length
  ·have g1:(segs.map eI)[i]?=some (eI segs[i]):=by simp[c5]
   have hmi:=hmem _ (List.getElem_mem c5);have q4:=HU (n:=segs[i]) (by omega) (by omega)
   have l4:=(vt (n:=segs[i].toNat) (by omega)).2
   have hR':=hR (i+1) (by omega) (by omega)
   have e1:ba (segs.take (i+1))=ba (segs.take i)++ah segs[i].toNat:=by
    rw[List.take_succ_eq_append_getElem c5,kB];simp[ba]
   rw[e1,<- List.append_assoc] at hR';obtain⟨P,hP⟩:∃ P:Txt,P=(ah ver.toNat++ah segs.length)++ba (segs.take i):=⟨_,rfl⟩;have hPl:P.length+(ah segs[i].toNat).length<=9223372036854775807:=by rw[hP,List.length_append,List.length_append];omega
   rw[<- hP] at hR' ⊢;(simp(disch:=first|decide|omega|(intros;exact rfl)|simp only[aa]) only[HB,g1,cY,eN,q4,hPl,go_sem,seval,aq])
   exact hR' _ _ cG
  ·have hin:i=segs.length:=by omega
   subst hin;rw[List.take_length] at hln ⊢;obtain⟨P,hP⟩:∃ P:Txt,P=(ah ver.toNat++ah segs.length)++ba segs:=⟨_,rfl⟩;have hPl:P.length+(ah size.toNat).length<=9223372036854775807:=by rw[hP,List.length_append,List.length_append];omega
   have hPl2:(P++ah size.toNat).length+F4.length<=9223372036854775807:=by rw[hP,List.length_append,List.length_append,List.length_append];omega
   rw[<- hP] at hp ⊢;obtain⟨P2,hP2⟩:∃ P2:Txt,P2=P++ah size.toNat:=⟨_,rfl⟩;rw[<- hP2] at hp hPl2;(simp(disch:=first|decide|omega|(intros;exact rfl)|simp only[aa]) only[HB,q3,hPl,<- hP2,hPl2,hf,hp,go_sem,seval,aq])
   try simp[trim]
theorem mB {l:List Fil} (hs:srt l) {n:Txt} (h:bz l n=false):∀ f∈l,f.name≠n:=by
 intro f hf he;obtain⟨i,hi,rfl⟩:=List.getElem_of_mem hf;have h1:¬ i<aw l n:=by
  rw[<- iE hs n i hi,he,fG];decide
 have h2:i=aw l n:=by
  rcases Nat.lt_or_ge (aw l n) i with h3|h3
  ·have hp:aw l n<l.length:=by omega
   have h4:=(List.pairwise_iff_getElem.1 hs) (aw l n) i hp hi h3;rw[he] at h4;have:=(iE hs n _ hp).1 h4;omega
  ·omega
 unfold bz at h;rw[<- h2,List.getElem?_eq_getElem hi] at h;simp[he] at h
theorem yX {l:List Fil} (hs:srt l) {f:Fil} (hf:f∈l):bz l f.name=true:=by
 cases h:bz l f.name with
 | true=>rfl
 | false=>exact absurd rfl (mB hs h f hf)
theorem Hq {l:List Fil} (hs:srt l) (i:Nat) (hi:i<l.length):aw l l[i].name=i:=by
 have h:=yX hs (List.getElem_mem hi);obtain⟨hp,he⟩:=bL h;rcases Nat.lt_trichotomy (aw l l[i].name) i with h1|h1|h1
 ·have:=(List.pairwise_iff_getElem.1 hs) _ _ hp hi h1;rw[he,fG] at this;cases this
 ·exact h1
 ·have:=(List.pairwise_iff_getElem.1 hs) _ _ hi hp h1;rw[he,fG] at this;cases this
theorem iM {l l':List Fil} (h:l'.map Fil.name=l.map Fil.name) (hs:srt l):srt l':=by
 have h1:(l.map Fil.name).Pairwise fun a b=>bl a b=true:=List.pairwise_map.2 hs
 rw[<- h] at h1;exact List.pairwise_map.1 h1
theorem mQ (l:List Fil) (k:Nat) (g:Fil->Fil) (hg:∀ f,(g f).name=f.name):(mY l k g).map Fil.name=l.map Fil.name:=by
 unfold mY;split
 ·rename_i f hf;obtain⟨h,rfl⟩:=List.getElem?_eq_some_iff.1 hf;rw[List.map_set,hg];have e:(l[k]).name=(l.map Fil.name)[k]'(by simpa using h):=by simp
  rw[e,List.set_getElem_self]
 ·rfl
theorem vC {l:List Fil} (hs:srt l) (f:Fil) (h:bz l f.name=false):srt (gC l (aw l f.name) f):=by
 have hf:=mB hs h;have h1:∀ x∈l.take (aw l f.name),bl x.name f.name=true:=by
  intro x hx;obtain⟨i,hi,rfl⟩:=List.getElem_of_mem hx;rw[List.length_take] at hi;rw[List.getElem_take];exact(iE hs f.name i (by omega)).2 (by omega)
 have h2:∀ x∈l.drop (aw l f.name),bl f.name x.name=true:=by
  intro x hx;obtain⟨i,hi,rfl⟩:=List.getElem_of_mem hx;rw[List.length_drop] at hi;rw[List.getElem_drop];have h3:¬ bl l[aw l f.name+i].name f.name=true:=fun h=>by
   have:=(iE hs f.name _ (by omega)).1 h;omega
  rcases rP l[aw l f.name+i].name f.name with h4|h4|h4
  ·exact absurd h4 h3
  ·exact absurd h4 (hf _ (List.getElem_mem _))
  ·exact h4
 have hsp:srt (l.take (aw l f.name)++l.drop (aw l f.name)):=by rw[List.take_append_drop];exact hs
 unfold srt at hsp;rw[List.pairwise_append] at hsp;unfold gC srt;rw[List.pairwise_append];refine⟨hsp.1,List.pairwise_cons.2 ⟨h2,hsp.2.1⟩,fun a ha b hb=>?_⟩
 rcases List.mem_cons.1 hb with rfl|hb
 ·exact h1 a ha
 ·exact hsp.2.2 a ha b hb
theorem I9 {l:List Fil} (hs:srt l) (f:Fil) (h:bz l f.name=true):srt (l.set (aw l f.name) f):=by
 obtain⟨hp,he⟩:=bL h;refine iM ?_ hs;rw[List.map_set];generalize aw l f.name=p at hp he;rw[<- he];have e:l[p].name=(l.map Fil.name)[p]'(by simpa using hp):=by simp
 rw[e,List.set_getElem_self]
theorem Cc {l:List Fil} (hs:srt l) (f:Fil):srt (iu l f):=by
 unfold iu;cases h:bz l f.name with
 | true=>rw[if_pos rfl];exact I9 hs f h
 | false=>rw[if_neg (by simp)];exact vC hs f h
structure okN (k u:Nat) (d:Dsk):Prop where
 len:d.files.length<=k
 srt:srt d.files
 left:0<=d.left∧d.left<9223372036854775808
 cap:0<=d.cap∧d.cap<9223372036854775808
 used:usedF d.files<=u
theorem okN.ok {k u:Nat} {d:Dsk} (h:okN k u d) (hk:k<=1000000) (hu:u<=1000000000000):d.ok :=
 ⟨Nat.le_trans h.len hk,h.srt,h.left,h.cap,Nat.le_trans h.used hu⟩
theorem okN.up {k u k' u':Nat} {d:Dsk} (h:okN k u d) (hk:k<=k') (hu:u<=u'):okN k' u' d :=
 ⟨Nat.le_trans h.len hk,h.srt,h.left,h.cap,Nat.le_trans h.used hu⟩
theorem ph {k u:Nat} {d:Dsk} (h:okN k u d) {r:List Fil × Int} (hr:r.2=0->r.1.length<=k∧Go.Proofs.YtghfhomfppbooaaGreat.srt r.1∧usedF r.1<=u):okN k u (au d r).1:=by
 obtain⟨a1,a2,a3,a4,a5⟩:=h;unfold au;split
 ·exact⟨a1,a2,a3,a4,a5⟩
 ·split
  ·exact⟨a1,a2,a3,a4,a5⟩
  ·rename_i h2;obtain⟨b1,b2,b3⟩:=hr (by simpa using h2)
   split
   ·split
    ·exact⟨a1,a2,a3,a4,a5⟩
    ·rename_i h4;exact⟨b1,b2,by simp only[];omega,a4,b3⟩
   ·exact⟨b1,b2,a3,a4,b3⟩
def qX (s:Dsk × Int) (f:Dsk->Dsk × Int):Dsk × Int:=if s.2=0 then f s.1 else s
def bQ (n:Txt) (s:Dsk × Int):Dsk × Int:=qX s fun d=>au d (bP d.files n)
def cN (n:Txt) (s:Dsk × Int):Dsk × Int:=qX s fun d=>au d (bZ d.files n)
def ee (n:Txt) (s:Dsk × Int):Dsk × Int:=qX s fun d=>au d (cJ d.files n)
def j5 (n x:Txt) (s:Dsk × Int):Dsk × Int:=qX s fun d=>au d (bV d.files d.cap n x)
def tZ (n t:Txt) (s:Dsk × Int):Dsk × Int:=qX s fun d=>au d (iy d.files n t)
def cL (n:Txt) (s:Dsk × Int):Dsk × Int:=if s.2≠9 then s else if(cN n (s.1,0)).2=0 then((cN n (s.1,0)).1,9) else cN n (s.1,0)
theorem xt (l:List Fil) (k:Nat) (f:Fil):usedF (gC l k f)=usedF l+f.data.length:=by
 have e:gC l k f=l.take k++([f]++l.drop k):=rfl;rw[e,cu,cu,gk];have:usedF l=usedF (l.take k)+usedF (l.drop k):=by rw[<- cu,List.take_append_drop]
 omega
theorem oy (l:List Fil) (k:Nat) (h:k<l.length) (f:Fil):usedF (l.set k f)+l[k].data.length=usedF l+f.data.length:=by
 have e:l.set k f=l.take k++([f]++l.drop (k+1)):=by rw[List.set_eq_take_append_cons_drop,if_pos h];rfl
 have e2:l=l.take k++([l[k]]++l.drop (k+1)):=by rw[List.singleton_append,<- List.drop_eq_getElem_cons h,List.take_append_drop]
 have:usedF l=usedF (l.take k)+(l[k].data.length+usedF (l.drop (k+1))):=by rw[<- gk l[k],<- cu,<- cu,<- e2]
 rw[e,cu,cu,gk];omega
theorem yw (l:List Fil) (k:Nat) (h:k<l.length):usedF (ef l k)+l[k].data.length=usedF l:=by
 have e2:l=l.take k++([l[k]]++l.drop (k+1)):=by rw[List.singleton_append,<- List.drop_eq_getElem_cons h,List.take_append_drop]
 have:usedF l=usedF (l.take k)+(l[k].data.length+usedF (l.drop (k+1))):=by rw[<- gk l[k],<- cu,<- cu,<- e2]
 unfold ef;rw[cu];omega
theorem sO {k u:Nat} {s:Dsk × Int} {f:Dsk->Dsk × Int} (h:okN k u s.1) (hf:okN k u (f s.1).1):okN k u (qX s f).1:=by
 unfold qX;split
 ·exact hf
 ·exact h
theorem fN {k u:Nat} {s:Dsk × Int} (h:okN k u s.1) (n:Txt):okN (k+1) u (bQ n s).1:=by
 refine sO (h.up (by omega) (Nat.le_refl _)) (ph (h.up (by omega) (Nat.le_refl _)) fun h0=>?_)
 unfold bP at h0 ⊢;split at h0
 ·rename_i h1;split at h0
  ·cases h0
  ·rename_i h2;rw[if_pos h1,if_neg h2];refine⟨by rw[wF _ _ _ (nK _ _)];have:=h.len;omega,vC h.srt ⟨n,[],0⟩ (by simpa using h2),?_⟩
   rw[xt];exact h.used
 ·cases h0
theorem ft {k u:Nat} {s:Dsk × Int} (h:okN k u s.1) (n:Txt):okN k u (cN n s).1:=by
 refine sO h (ph h fun h0=>?_)
 unfold bZ at h0 ⊢;split at h0
 ·rename_i h1;rw[if_pos h1];obtain⟨hp,_⟩:=bL h1;refine⟨by rw[n8 _ _ hp];have:=h.len;omega,kP h.srt _,?_⟩
  have h3:=yw _ _ hp;have h4:=h.used;show usedF (ef s.1.files (aw s.1.files n))<=u;omega
 ·cases h0
theorem lU {k u:Nat} {s:Dsk × Int} (h:okN k u s.1) (n:Txt):okN k u (ee n s).1:=by
 refine sO h (ph h fun h0=>?_)
 unfold cJ at h0 ⊢;split at h0
 ·rename_i h1;rw[if_pos h1];obtain⟨hp,_⟩:=bL h1;refine⟨by rw[vM];exact h.len,iM (mQ _ _ _ fun _=>rfl) h.srt,?_⟩
  rw[gL hp];have h3:=oy _ _ hp { s.1.files[aw s.1.files n] with sure:=s.1.files[aw s.1.files n].data.length }
  have h4:=h.used;simp only[] at h3 ⊢;omega
 ·cases h0
theorem lW {k u:Nat} {s:Dsk × Int} (h:okN k u s.1) (n x:Txt):okN k (u+x.length) (j5 n x s).1:=by
 refine sO (h.up (Nat.le_refl _) (by omega)) (ph (h.up (Nat.le_refl _) (by omega)) fun h0=>?_)
 unfold bV at h0 ⊢;split at h0
 ·rename_i h1;split at h0
  ·cases h0
  ·rename_i h2;rw[if_pos h1,if_neg h2];obtain⟨hp,_⟩:=bL h1;refine⟨by rw[vM];exact h.len,iM (mQ _ _ _ fun _=>rfl) h.srt,?_⟩
   rw[gL hp];have h3:=oy _ _ hp { s.1.files[aw s.1.files n] with data:=s.1.files[aw s.1.files n].data++x }
   have h4:=h.used;simp only[List.length_append] at h3 ⊢;omega
 ·cases h0
theorem J7 {k u:Nat} {s:Dsk × Int} (h:okN k u s.1) (n t:Txt):okN k u (tZ n t s).1:=by
 refine sO h (ph h fun h0=>?_)
 unfold iy at h0 ⊢;split at h0
 ·rename_i h1;split at h0
  ·rename_i h2;rw[if_pos h1,if_pos h2];obtain⟨hp,_⟩:=bL h1;have hd:(dj s.1.files (aw s.1.files n) t).data=s.1.files[aw s.1.files n].data:=by unfold dj;rw[List.getElem?_eq_getElem hp]
   have hu:=yw _ _ hp;have hul:=h.used;have hln:=h.len;have hdl:=n8 _ _ hp;refine⟨Nat.le_trans (Dg _ _) (by rw[hdl];omega),Cc (kP h.srt _) _,?_⟩
   show usedF (iu (ef s.1.files (aw s.1.files n)) (dj s.1.files (aw s.1.files n) t))<=u;unfold iu;split
   ·rename_i h3;obtain⟨hp3,_⟩:=bL h3;have h5:=oy _ _ hp3 (dj s.1.files (aw s.1.files n) t);rw[hd] at h5;omega
   ·rw[xt,hd];omega
  ·cases h0
 ·cases h0
theorem lT {k u:Nat} {s:Dsk × Int} (h:okN k u s.1) (n:Txt):okN k u (cL n s).1:=by
 unfold cL;split
 ·exact h
 ·split
  ·exact ft (s:=(s.1,0)) h n
  ·exact ft (s:=(s.1,0)) h n
def eQ (s:Dsk × Int):Box:=.cells (s.1.l++[.d (.i .i64 s.2)])
theorem ND (s:Dsk × Int) (g:Nat) (x:Txt) (f:Dsk->Dsk × Int) (hg:s.2=0->call g [.agg s.1.l,.one (.p 0 0)] [.cells [.d (.s x)]]=some (bu (f s.1),[.cells [.d (.s x)]])) :
  call 89 [.one (.p 0 0),.one (.f g [1])] [eQ s,.cells [.d (.s x)]]=some (.tup [],[eQ (qX s f),.cells [.d (.s x)]]):=by
 apply ai PP rfl;obtain⟨d,e⟩:=s;unfold qX;simp only at hg ⊢;by_cases h:e=0
 ·subst h;have h1:∀ D:Box,az call g [.agg d.l,.one (.p 1 0)] [D,.cells [.d (.s x)]]=some (bu (f d),[D,.cells [.d (.s x)]]):=fun D =>
   aU (ids:=[1]) rfl rfl rfl (hg rfl) rfl
  generalize f d=r at *;obtain⟨⟨f2,cp2,ar2,lf2,dn2⟩,e2⟩:=r;obtain⟨fl,cp,ar,lf,dn⟩:=d;simp only[bu,Dsk.l] at h1;(simp(disch:=first|decide|omega|(intros;exact rfl)|simp only[aa]) only[aS,MI,eQ,Dsk.l,↓h1,go_sem,seval,aq])
  simp[trim,V.refs,L.refs,Box.refs]
 ·obtain⟨fl,cp,ar,lf,dn⟩:=d;(simp(disch:=first|decide|omega|(intros;exact rfl)|simp only[aa]) only[aS,MI,eQ,Dsk.l,h,go_sem,seval,aq])
  simp[trim,V.refs,L.refs,Box.refs,h]
theorem QQ (s:Dsk × Int) (g:Nat) (f:Dsk->Dsk × Int) (hg:s.2=0->call g [.agg s.1.l] []=some (bu (f s.1),[])) :
  call 89 [.one (.p 0 0),.one (.f g [])] [eQ s]=some (.tup [],[eQ (qX s f)]):=by
 apply ai PP rfl;obtain⟨d,e⟩:=s;unfold qX;simp only at hg ⊢;by_cases h:e=0
 ·subst h;have h1:∀ H:Hp,az call g [.agg d.l] H=some (bu (f d),H):=fun H=>callIso_pure rfl (hg rfl) rfl
  generalize f d=r at *;obtain⟨⟨f2,cp2,ar2,lf2,dn2⟩,e2⟩:=r;obtain⟨fl,cp,ar,lf,dn⟩:=d;simp only[bu,Dsk.l] at h1;(simp(disch:=first|decide|omega|(intros;exact rfl)|simp only[aa]) only[aS,MI,eQ,Dsk.l,↓h1,go_sem,seval,aq])
  simp[trim,V.refs,L.refs,Box.refs]
 ·obtain⟨fl,cp,ar,lf,dn⟩:=d;(simp(disch:=first|decide|omega|(intros;exact rfl)|simp only[aa]) only[aS,MI,eQ,Dsk.l,h,go_sem,seval,aq])
  simp[trim,V.refs,L.refs,Box.refs,h]
theorem I4 (d:Dsk) (hd:d.ok) (n:Txt):call 90 [.agg d.l,.one (.p 0 0)] [.cells [.d (.s n)]]=some (bu (au d (bP d.files n)),[.cells [.d (.s n)]]):=by
 apply ai Qb rfl;have h:=yW d hd n;generalize au d (bP d.files n)=r at *;obtain⟨⟨f2,cp2,ar2,lf2,dn2⟩,e2⟩:=r;obtain⟨fl,cp,ar,lf,dn⟩:=d;simp only[bu,Dsk.l] at h ⊢;(simp(disch:=first|decide|omega|(intros;exact rfl)|simp only[aa]) only[aS,Pt,h,go_sem,seval,aq])
 simp[trim,V.refs,L.refs,Box.refs]
theorem Jq (d:Dsk) (hd:d.ok) (n:Txt):call 127 [.agg d.l,.one (.p 0 0)] [.cells [.d (.s n)]]=some (bu (au d (bZ d.files n)),[.cells [.d (.s n)]]):=by
 apply ai NT rfl;have h:=lK d hd n;generalize au d (bZ d.files n)=r at *;obtain⟨⟨f2,cp2,ar2,lf2,dn2⟩,e2⟩:=r;obtain⟨fl,cp,ar,lf,dn⟩:=d;simp only[bu,Dsk.l] at h ⊢;(simp(disch:=first|decide|omega|(intros;exact rfl)|simp only[aa]) only[aS,MK,h,go_sem,seval,aq])
 simp[trim,V.refs,L.refs,Box.refs]
theorem ME (d:Dsk) (hd:d.ok) (n:Txt):call 130 [.agg d.l,.one (.p 0 0)] [.cells [.d (.s n)]]=some (bu (au d (cJ d.files n)),[.cells [.d (.s n)]]):=by
 apply ai Ox rfl;have h:=pv d hd n;generalize au d (cJ d.files n)=r at *;obtain⟨⟨f2,cp2,ar2,lf2,dn2⟩,e2⟩:=r;obtain⟨fl,cp,ar,lf,dn⟩:=d;simp only[bu,Dsk.l] at h ⊢;(simp(disch:=first|decide|omega|(intros;exact rfl)|simp only[aa]) only[aS,Mk,h,go_sem,seval,aq])
 simp[trim,V.refs,L.refs,Box.refs]
theorem KF (d:Dsk) (hd:d.ok) (x:Txt) (hx:x.length<=1000000000000):call 95 [.agg d.l,.one (.p 0 0)] [.cells [.d (.s x)]]=some (bu (au d (bV d.files d.cap [110] x)),[.cells [.d (.s x)]]):=by
 apply ai QD rfl;have h:=yU d hd [110] x hx;generalize au d (bV d.files d.cap [110] x)=r at *;obtain⟨⟨f2,cp2,ar2,lf2,dn2⟩,e2⟩:=r;obtain⟨fl,cp,ar,lf,dn⟩:=d;simp only[bu,Dsk.l] at h ⊢;(simp(disch:=first|decide|omega|(intros;exact rfl)|simp only[aa]) only[aS,PO,h,go_sem,seval,aq])
 simp[trim,V.refs,L.refs,Box.refs]
theorem L4 (d:Dsk) (hd:d.ok):call 99 [.agg d.l] []=some (bu (au d (iy d.files [110] [109])),[]):=by
 apply ai Qm rfl;have h:=yR d hd [110] [109];generalize au d (iy d.files [110] [109])=r at *;obtain⟨⟨f2,cp2,ar2,lf2,dn2⟩,e2⟩:=r;obtain⟨fl,cp,ar,lf,dn⟩:=d;simp only[bu,Dsk.l] at h ⊢;(simp(disch:=first|decide|omega|(intros;exact rfl)|simp only[aa]) only[aS,Pm,h,go_sem,seval,aq])
 try simp[trim,V.refs,L.refs,Box.refs]
theorem oh (s:Dsk × Int) (hd:s.1.ok) (n:Txt):call 51 [.one (.p 0 0),vs n] [eQ s]=some (.tup [],[eQ (bQ n s)]):=by
 apply ai Qw rfl;have h:az call 89 [.one (.p 0 0),.one (.f 90 [1])] [eQ s,.cells [.d (.s n)]]=some (.tup [],[eQ (bQ n s),.cells [.d (.s n)]]) :=
  aU (ids:=[0,1]) rfl rfl rfl (ND s _ n _ fun _=>I4 s.1 hd n) rfl
 (simp(disch:=first|decide|omega|(intros;exact rfl)|simp only[aa]) only[aS,Po,↓h,go_sem,seval,aq])
 simp[trim,V.refs,L.refs,Box.refs,eQ,Dsk.l]
theorem oW (s:Dsk × Int) (hd:s.1.ok) (n:Txt):call 94 [.one (.p 0 0),vs n] [eQ s]=some (.tup [],[eQ (cN n s)]):=by
 apply ai Qv rfl;have h:az call 89 [.one (.p 0 0),.one (.f 127 [1])] [eQ s,.cells [.d (.s n)]]=some (.tup [],[eQ (cN n s),.cells [.d (.s n)]]) :=
  aU (ids:=[0,1]) rfl rfl rfl (ND s _ n _ fun _=>Jq s.1 hd n) rfl
 (simp(disch:=first|decide|omega|(intros;exact rfl)|simp only[aa]) only[aS,Pl,↓h,go_sem,seval,aq])
 simp[trim,V.refs,L.refs,Box.refs,eQ,Dsk.l]
theorem zP (s:Dsk × Int) (hd:s.1.ok) (n:Txt):call 98 [.one (.p 0 0),vs n] [eQ s]=some (.tup [],[eQ (ee n s)]):=by
 apply ai P8 rfl;have h:az call 89 [.one (.p 0 0),.one (.f 130 [1])] [eQ s,.cells [.d (.s n)]]=some (.tup [],[eQ (ee n s),.cells [.d (.s n)]]) :=
  aU (ids:=[0,1]) rfl rfl rfl (ND s _ n _ fun _=>ME s.1 hd n) rfl
 (simp(disch:=first|decide|omega|(intros;exact rfl)|simp only[aa]) only[aS,Pu,↓h,go_sem,seval,aq])
 simp[trim,V.refs,L.refs,Box.refs,eQ,Dsk.l]
end Go.Proofs.YtghfhomfppbooaaGreat
