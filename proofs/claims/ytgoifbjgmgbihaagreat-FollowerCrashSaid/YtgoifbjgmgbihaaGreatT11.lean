import Derived.Test.YtgoifbjgmgbihaaGreatT10
import Derived.Test.YtgoifbjgmgbihaaGreatT05
import Derived.Test.YtgoifbjgmgbihaaGreatT09
import Derived.Test.YtgoifbjgmgbihaaGreatT02
import Derived.Test.YtgoifbjgmgbihaaGreatT08
set_option linter.unusedSimpArgs false
set_option linter.unusedVariables false
set_option maxRecDepth 20000
set_option maxHeartbeats 16000000
namespace Go.Proofs.YtgoifbjgmgbihaaGreat
open Go.Vi
structure CI (c:Cnf):Prop where
 seg:1<=c.seg
 held:0<=c.held∧c.held<=1000
 win:(0<=c.window∧c.window<=1000000)∧(0<=c.batch∧c.batch<=1000000)
 beat:0<=c.beat∧c.beat<=c.retry∧c.retry<=1000000
 few:c.batch<=c.window
structure FI (p:Bool) (k u:Nat) (all:List Rec) (c:Cnf) (v:Int) (n:Nat) (f:Fw):Prop where
 id_:f.id_=1
 ic:f.ic=3
 st:Sg p k u all n n f.sto
 sure:f.sto.sure=n
 ver:f.sto.ver<=v
 sq:0<=f.sq∧f.sq<=v
 wa:0<=f.wa∧f.wa<=c.retry
 hd:HD all c.held (c.window-c.batch) f.hd
 bo:BI all f.bo
variable {p:Bool} {k u n:Nat} {all:List Rec} {c:Cnf} {v:Int} {f:Fw}
theorem w9 (ha:Lg all):∀ (h:List (List Rec)) (n:Int) (out:List Rec),(∀ l∈h,pieceL all l)->(all.length:Int)<=n->gQ h n out=(out,[])
 | [],n,out,_,_=>rfl
 | l::h,n,out,hp,hn=>by
  obtain⟨a,k,h1,h2,rfl⟩:=hp l (List.mem_cons_self ..);unfold gQ;rw[pg ha h1 h2,qX h2,if_neg (by omega),if_neg (by omega)]
  exact w9 ha h n out (fun x hx=>hp x (List.mem_cons_of_mem _ hx)) hn
theorem rW (all:List Rec) (a t:Nat):(all.take t).drop a=(all.drop a).take (t-a):=List.drop_take
theorem Lx (a t:Nat) (hat:a<=t) (htl:t<=all.length) (hn:f.sto.next=n) (h:a<=n):eU f (cP a ((all.take t).drop a))=(all.drop n).take (t-n):=by
 have hl:((all.take t).drop a).length=t-a:=by rw[zH,zQ];omega
 unfold eU py;simp only[cP,hl,hn];by_cases c1:n<=t
 ·have e:(if((t-a:Nat):Int)<(n:Int)-a then((t-a:Nat):Int) else(n:Int)-a).toNat=n-a:=by split <;> omega
  rw[e,List.drop_drop,rW];have z:a+(n-a)=n:=by omega
  rw[z]
 ·have e:(if((t-a:Nat):Int)<(n:Int)-a then((t-a:Nat):Int) else(n:Int)-a).toNat=t-a:=by split <;> omega
  have z:t-n=0:=by omega
  rw[e,z,List.take_zero];exact zC (by omega)
theorem LN (a t:Nat) (hn:f.sto.next=n) (h:n<a):eU f (cP a ((all.take t).drop a))=(all.take t).drop a:=by
 unfold eU py;simp only[cP,hn];have e:(if(((all.take t).drop a).length:Int)<(n:Int)-a then((((all.take t).drop a).length:Nat):Int) else(n:Int)-a).toNat=0:=by split <;> omega
 rw[e,List.drop_zero]
theorem Fi (ha:Lg all) (hh:FI p k u all c v n f) (a t:Nat) (hat:a<=t) (htl:t<=all.length) (h:a<=n):∃ j,n+(t-n)+j<=all.length∧eU f (cP a ((all.take t).drop a))++(gK f (cP a ((all.take t).drop a))).1=(all.drop n).take (t-n+j) ∧
  (gK f (cP a ((all.take t).drop a))).2.Sublist f.hd∧(all.length<=n+(t-n)+j->(gK f (cP a ((all.take t).drop a))).2=[]):=by
 have hn:=hh.st.next;have hle:=hh.st.le;have e:=Lx a t hat htl hn h;have hl:((all.drop n).take (t-n)).length=t-n:=by rw[zQ,zH];omega
 unfold gK;rw[e,hl,hn];have e2:(n:Int)+((t-n:Nat):Int)=((n+(t-n):Nat):Int):=by omega
 rw[e2];obtain⟨j,b1,b2,b3,b4⟩:=takeH_law ha f.hd (n+(t-n)) [] hh.hd.pc (by omega)
 refine⟨j,b1,?_,b3,b4⟩;rw[b2,List.nil_append,List.take_add,List.drop_drop]
theorem Ji (ha:Lg all) (hh:FI p k u all c v n f) (a t:Nat) (hat:a<=t) (htl:t<=all.length):(eU f (cP a ((all.take t).drop a))++(gK f (cP a ((all.take t).drop a))).1).length<=100 ∧
  ∀ r∈eU f (cP a ((all.take t).drop a))++(gK f (cP a ((all.take t).drop a))).1,r∈all:=by
 have hn:=hh.st.next;have hal:=ha.len;by_cases h:a<=n
 ·obtain⟨j,b1,b2,_⟩:=Fi ha hh a t hat htl h;rw[b2];exact⟨by rw[zQ,zH];omega,fun r hr=>List.mem_of_mem_drop (zZ hr)⟩
 ·have e:=LN (all:=all) a t hn (by omega)
  have hm:∀ r∈(all.take t).drop a,r∈all:=fun r hr=>zZ (List.mem_of_mem_drop hr)
  unfold gK;rw[e,hn];have hl:((all.take t).drop a).length=t-a:=by rw[zH,zQ];omega
  rw[hl];by_cases c1:n+(t-a)<=all.length
  ·have e2:(n:Int)+((t-a:Nat):Int)=((n+(t-a):Nat):Int):=by omega
   rw[e2];obtain⟨j,b1,b2,_⟩:=takeH_law ha f.hd (n+(t-a)) [] hh.hd.pc c1;rw[b2,List.nil_append];refine⟨by rw[zA,hl,zQ,zH];omega,fun r hr=>?_⟩
   rcases zX.1 hr with hr|hr
   ·exact hm r hr
   ·exact List.mem_of_mem_drop (zZ hr)
  ·rw[w9 ha f.hd _ [] hh.hd.pc (by omega)]
   refine⟨by rw[List.append_nil,hl];omega,fun r hr=>?_⟩
   rw[List.append_nil] at hr;exact hm r hr
theorem FI.batch (ha:Lg all) (hc:CI c) (hh:FI p k u all c v n f) (hu:u<800000000000) (a t:Nat) (hat:a<=t) (htl:t<=all.length) :
  ∃ n',n<=n'∧(((dA f c (cP a ((all.take t).drop a))).2=0∧FI p (k+62) (u+53000) all c (v+32) n' (dA f c (cP a ((all.take t).drop a))).1∧(a<=n->t<=n')∧(a<=n->a<t->t=all.length->(dA f c (cP a ((all.take t).drop a))).1.hd=[])) ∨
   ((dA f c (cP a ((all.take t).drop a))).2=10∧p=false∧Sg p (k+62) (u+53000) all n n' (dA f c (cP a ((all.take t).drop a))).1.sto)):=by
 have hn:=hh.st.next;have hal:=ha.len;have hb:=hc.beat;have hv:=hh.ver;have hq:=hh.sq;have hl:((all.take t).drop a).length=t-a:=by rw[zH,zQ];omega
 unfold dA;rw[if_pos (show(cP (a:Int) ((all.take t).drop a)).kd=2 from rfl)]
 unfold o5;have e1:(cP (a:Int) ((all.take t).drop a)).rs.length=t-a:=hl;rw[e1];by_cases c1:t-a=0
 ·rw[if_pos c1];refine⟨n,Nat.le_refl _,.inl ⟨rfl,⟨hh.id_,hh.ic,hh.st.up (by omega) (by omega),hh.sure,?_,?_,⟨hb.1,hb.2.1⟩,hh.hd,hh.bo⟩,fun h=>by omega,fun _ h=>by omega⟩⟩
  ·show f.sto.ver<=_;omega
  ·show 0<=f.sq∧f.sq<=_;omega
 ·rw[if_neg c1];have e2:(eu f c).sto.next=n:=hn;have e3:(cP (a:Int) ((all.take t).drop a)).at_=a:=rfl;rw[e2,e3];by_cases c2:(n:Int)<a
  ·rw[if_pos c2];have hput:=hh.hd.put (l:=(all.take t).drop a) (.inr ⟨a,t-a,by omega,by omega,rW all a t⟩) n
   refine⟨n,Nat.le_refl _,.inl ⟨rfl,⟨hh.id_,hh.ic,hh.st.up (by omega) (by omega),hh.sure,?_,?_,⟨hb.1,hb.2.1⟩,hput,hh.bo⟩,fun h=>by omega,fun h=>by omega⟩⟩
   ·show f.sto.ver<=_;omega
   ·show 0<=f.sq∧f.sq<=_;omega
  ·rw[if_neg c2];have han:a<=n:=by omega
   obtain⟨j,b1,b2,b3,b4⟩:=Fi ha hh a t hat htl han;have f1:eU (eu f c) (cP a ((all.take t).drop a))=eU f (cP a ((all.take t).drop a)):=rfl;have f2:gK (eu f c) (cP a ((all.take t).drop a))=gK f (cP a ((all.take t).drop a)):=rfl;rw[f1,f2,b2];have f3:(eu f c).sto=f.sto:=rfl;rw[f3];obtain⟨n',d1,d2,d3,d4,d5⟩:=hh.st.follow ha hh.sure c hc.seg (t-n+j) (by omega) (by omega)
   refine⟨n',d1,?_⟩;rcases d5 with⟨d5,d6,d7⟩|⟨d5,d6⟩
   ·refine .inl ⟨d5,⟨hh.id_,hh.ic,⟨d4.ok.up (by omega) (by omega),d4.idl,d4.wr,d4.le,by rw[d7];omega⟩,d7,?_,?_,⟨hb.1,hb.2.1⟩,hh.hd.sub b3,hh.bo⟩,fun _=>by omega,fun _ _ h=>b4 (by omega)⟩
    ·show(dW f.sto c _).1.ver<=_;omega
    ·show 0<=f.sq∧f.sq<=_;omega
   ·exact .inr ⟨d5,d6,d4.up (by omega) (by omega)⟩
theorem FI.chunk (ha:Lg all) (hc:CI c) (hh:FI p k u all c v n f) (hu:u<800000000000) (a i t:Nat) (hal:a<=all.length) (hi:i<=(eL all a).length) (ht:i<=t) :
  ∃ n',n<=n'∧(((dA f c (gT a i (eL all a).length (cE (eL all a)) (((eL all a).take t).drop i))).2=0∧FI p (k+62) (u+53000) all c (v+32) n' (dA f c (gT a i (eL all a).length (cE (eL all a)) (((eL all a).take t).drop i))).1) ∨
   ((dA f c (gT a i (eL all a).length (cE (eL all a)) (((eL all a).take t).drop i))).2=10∧p=false∧Sg p (k+62) (u+53000) all n n' (dA f c (gT a i (eL all a).length (cE (eL all a)) (((eL all a).take t).drop i))).1.sto)):=by
 have hn:=hh.st.next;have hb:=hc.beat;have hv:=hh.ver;have hq:=hh.sq;have hbc:=BI.chunk (f:=eu f c) (show BI all (eu f c).bo from hh.bo) hal i t hi ht
 obtain⟨m,hm⟩:∃ m,m=gT (a:Int) (i:Nat) ((eL all a).length:Nat) (cE (eL all a)) (((eL all a).take t).drop i):=⟨_,rfl⟩;rw[<- hm] at hbc ⊢;have m1:m.kd=3:=by rw[hm];rfl
 have m2:m.at_=a:=by rw[hm];rfl
 have m3:(fH (eu f c) m).at_=a:=m2;have m4:(fH (eu f c) m).sz=((eL all a).length:Nat):=by rw[hm];rfl
 have m5:(fH (eu f c) m).su=cE (eL all a):=by rw[hm];rfl
 clear hm;have same:∀ b:Boo,BI all b->FI p (k+62) (u+53000) all c (v+32) n { eu f c with bo:=b }:=fun b h=>by
  refine⟨hh.id_,hh.ic,hh.st.up (by omega) (by omega),hh.sure,?_,?_,⟨hb.1,hb.2.1⟩,hh.hd,h⟩
  ·show f.sto.ver<=_;omega
  ·show 0<=f.sq∧f.sq<=_;omega
 unfold dA;rw[if_neg (by rw[m1];decide)]
 unfold mH;split
 ·exact⟨n,Nat.le_refl _,.inl ⟨rfl,same _ hh.bo⟩⟩
 ·rename_i c1;simp only[not_or] at c1;rw[m2] at c1;have hna:n<a:=by
   have:(eu f c).sto.next=n:=hn;omega
  split
  ·exact⟨n,Nat.le_refl _,.inl ⟨rfl,same _ hbc⟩⟩
  ·rename_i c2;split
   ·exact⟨n,Nat.le_refl _,.inl ⟨rfl,same _ BI.zero⟩⟩
   ·rename_i c3;simp only[not_or] at c3;have hg:(fH (eu f c) m).got=eL all a:=by
     obtain⟨_,_,j,h3⟩:=hbc;rw[m3] at h3;simp only[Int.toNat_natCast] at h3;rw[m4,h3,zQ] at c2;rw[h3];exact zL (by omega)
    unfold nu;rw[hg,m3];have f3:(eu f c).sto=f.sto:=rfl;rw[f3];obtain⟨d1,d2⟩:=hh.st.inst ha (by omega) hna hal (L0 hh.st.ok (a:Int) (x:=eL all a) (by have:=(ha.sn a).2.1;omega))
    rcases d2 with⟨d2,d3,d4⟩|⟨d2,d3,n',d4,d5⟩
    ·rw[if_neg (by rw[d2];decide)]
     refine⟨a,by omega,.inl ⟨rfl,⟨hh.id_,hh.ic,⟨d3.ok.up (by omega) (by omega),d3.idl,d3.wr,d3.le,by rw[d4];omega⟩,d4,?_,?_,⟨hb.1,hb.2.1⟩,hh.hd.rest _,BI.zero⟩⟩⟩
     ·show(bw f.sto _ _).1.ver<=_;omega
     ·show 0<=f.sq∧f.sq<=_;omega
    ·rw[if_pos (by rw[d2];decide)]
     exact⟨n',by omega,.inr ⟨d2,d3,d5.up (by omega) (by omega)⟩⟩
theorem FI.few (ha:Lg all) (hh:FI true k u all c v n f) (hv:v<=300000):FI true 70 300000 all c v n f :=
 ⟨hh.id_,hh.ic,hh.st.few ha (by have:=hh.ver;omega),hh.sure,hh.ver,hh.sq,hh.wa,hh.hd,hh.bo⟩
variable {p:Bool} {k u n:Nat} {all:List Rec} {c:Cnf} {v:Int} {f:Fw}
theorem Aq (data:List Txt) (hl:data.length<=30) (hd:∀ d∈data,d.length<=64):Lg (bL data)∧∀ r∈bL data,r.ok:=by
 have hm:∀ r∈bL data,∃ (i:Nat) (hi:i<data.length),r=⟨(i:Nat),(i:Nat),data[i]⟩:=fun r hr=>by
  unfold bL at hr;rw[List.mem_mapIdx] at hr;obtain⟨i,hi,rfl⟩:=hr;exact⟨i,hi,rfl⟩
 refine⟨⟨by rw[lL];exact hl,fun r hr=>?_,fun k hk=>?_⟩,fun r hr=>?_⟩
 ·obtain⟨i,hi,rfl⟩:=hm r hr;have:=hd _ (zN hi);have e:ef (i:Nat)=true:=by unfold ef;simp;omega
  unfold whyF;rw[if_pos ⟨e,e⟩,if_pos this]
 ·simp[bL]
 ·obtain⟨i,hi,rfl⟩:=hm r hr;have:=hd _ (zN hi);refine⟨⟨?_,?_⟩,⟨?_,?_⟩,?_⟩ <;> simp only[] <;> omega
theorem Eg (k0 k1 k2 k3 k4 k5 k6 k7 k8 k9 k10 k11:Nat) (h5:k5<256):CI (wG k0 k1 k2 k3 k4 k5 k6 k7 k8 k9 k10 k11):=by
 refine⟨?_,⟨?_,?_⟩,⟨⟨?_,?_⟩,⟨?_,?_⟩⟩,⟨?_,?_,?_⟩,?_⟩ <;> simp only[wG] <;> omega
theorem Ab (hc:CI c):FI true 70 300000 all c 1 0 (pu 1 3 (aH d0).1 c):=by
 have hp:=OV;have hw:=(Ht d0_ok.srt (fun _ _=>rfl) Cx).1
 have e1:idl true (aH d0).1.disk:=by
  have:(aH d0).1.disk.cap=0∧(aH d0).1.disk.armed=false∧(aH d0).1.disk.down=false:=by decide +kernel
  exact⟨this.1,fun _=>this.2⟩
 have e2:(aH d0).1.sure=0∧(aH d0).1.ver=1:=by decide +kernel
 have hb:=hc.beat;have hh:=hc.held;have hf:=hc.few;refine⟨rfl,rfl,⟨hp.ok.up (by omega) (by omega),e1,⟨0,[],Nat.le_refl _,?_⟩,zP _,?_⟩,e2.1,?_,⟨Int.le_refl _,(by show(0:Int)<=1;decide)⟩,⟨hb.1,hb.2.1⟩,⟨(fun l hl=>by cases hl),List.Pairwise.nil,hh.1,?_⟩,BI.zero⟩
 ·have:staA all 0=[]:=rfl;rw[this];exact hw
 ·show((0:Nat):Int)<=(aH d0).1.sure;rw[e2.1];exact Int.le_refl _
 ·show(aH d0).1.ver<=1;rw[e2.2];exact Int.le_refl _
 ·show((0:Nat):Int)<=_;omega
def N0 (p:Bool) (all:List Rec) (c:Cnf) (v:Int) (n:Nat) (g:Fw) (e:Int) (kd a nn:Nat):Prop :=
 ∃ n',n<=n'∧((e=0∧FI p 132 353000 all c (v+32) n' g∧(kd % 6=0->a % (all.length+1)<=n->zq all.length (a % (all.length+1)) (nn % 6)<=n') ∧
   (kd % 6=0->a % (all.length+1)<=n->a % (all.length+1)<zq all.length (a % (all.length+1)) (nn % 6)->zq all.length (a % (all.length+1)) (nn % 6)=all.length->g.hd=[])) ∨
  (e=10∧p=false∧Sg p 132 353000 all n n' g.sto))
theorem FI.hear (ha:Lg all) (ht:∀ r∈all,r.ok) (hc:CI c) (hh:FI p 70 300000 all c v n f) (kd a i nn:Nat) (hnn:nn<256) :
  call 12 [.agg f.l,.agg c.l,.agg (jf all kd a i nn).l] []=some (u7 f (dA f c (jf all kd a i nn)),[])∧N0 p all c v n (dA f c (jf all kd a i nn)).1 (dA f c (jf all kd a i nn)).2 kd a nn:=by
 have hal:=ha.len;have hat:a % (all.length+1)<=all.length:=by have:=Nat.mod_lt a (show 0<all.length+1 by omega);omega
 have hok:=hh.hd.ok ha ht hc.held.2;have hnx:=hh.st.next;have hle:=hh.st.le;unfold N0 jf;generalize a % (all.length+1)=a0 at *;by_cases c0:kd % 6=0
 ·rw[if_pos c0];obtain⟨j1,j2⟩:=yh all.length a0 (nn % 6) hat;generalize zq all.length a0 (nn % 6)=t at *;have hl:((all.take t).drop a0).length=t-a0:=by rw[zH,zQ];omega
  have hmem:∀ r∈(all.take t).drop a0,r∈all:=fun r hr=>zZ (List.mem_of_mem_drop hr)
  obtain⟨n',b1,b2⟩:=hh.batch ha hc (by omega) a0 t j1 j2
  have hml:=Ji ha hh a0 t j1 j2;refine⟨?_,n',b1,?_⟩
  ·refine Dg f c _ (BJ (a0:Int) (by omega) ((all.take t).drop a0) (by omega) (fun i hi=>?_) fun r hr=>ht r (hmem r hr)) rfl hh.id_.symm hh.ic.symm (hh.st.go ha) hok ?_ (by show 0<=(a0:Int)∧(a0:Int)<=1099511627776;omega) (by rw[hnx];omega) hc.seg hc.win hml.1 (fun r hr=>ht r (hml.2 r hr)) (by omega) (by omega) (by omega)
   ·refine⟨ha.why _ (hmem _ (zN hi)),?_⟩;rw[List.getElem_drop,List.getElem_take];have:=ha.num (a0+i) (by omega)
    rw[this];omega
   ·by_cases c1:t-a0=0
    ·exact .inl (hl.trans c1)
    ·exact .inr (ha.rok ht _ ⟨a0,t-a0,by omega,by omega,rW all a0 t⟩)
  ·rcases b2 with⟨b2,b3,b4,b5⟩|b2
   ·exact .inl ⟨b2,b3,fun _=>b4,fun _=>b5⟩
   ·exact .inr b2
 ·rw[if_neg c0];obtain⟨l1,l2,_⟩:=ha.sn a0;have hkk:i % ((eL all a0).length+1)<=(eL all a0).length:=by have:=Nat.mod_lt i (show 0<(eL all a0).length+1 by omega);omega
  generalize i % ((eL all a0).length+1)=i0 at *;obtain⟨j1,j2⟩:=yh (eL all a0).length i0 nn hkk;have htl:zq (eL all a0).length i0 nn<=i0+nn:=by unfold zq;split <;> omega
  generalize zq (eL all a0).length i0 nn=t at *;obtain⟨n',b1,b2⟩:=hh.chunk ha hc (by omega) a0 i0 t hat hkk j1
  have hdl:(((eL all a0).take t).drop i0).length<=255:=by rw[zH,zQ];omega
  have hbl:=hh.bo.len ha;have hhd:(dA f c (gT a0 i0 (eL all a0).length (cE (eL all a0)) (((eL all a0).take t).drop i0))).1.hd.Sublist f.hd:=by
   unfold dA;rw[if_neg (show ¬ (gT (a0:Int) (i0:Nat) ((eL all a0).length:Nat) (cE (eL all a0)) (((eL all a0).take t).drop i0)).kd=2 from(by show ¬ (3:Int)=2;decide))]
   unfold mH;split
   ·exact List.Sublist.refl _
   ·split
    ·exact List.Sublist.refl _
    ·split
     ·exact List.Sublist.refl _
     ·unfold nu;split
      ·exact List.Sublist.refl _
      ·exact List.filter_sublist
  refine⟨?_,n',b1,?_⟩
  ·refine Db f c _ (AN (a0:Int) (by omega) _ _ _ _ (by omega) (by omega) (by omega)) rfl hh.id_.symm hh.ic.symm hh.st.ok (by omega) (by omega) hok (by show -9223372036854775808<=(a0:Int)∧(a0:Int)<9223372036854775808;omega) (by show f.bo.got.length+(((eL all a0).take t).drop i0).length<=20000;omega) ?_
   have:=hhd.length_le;have:=hok.len;unfold dA at *;rw[if_neg (show ¬ (gT (a0:Int) (i0:Nat) ((eL all a0).length:Nat) (cE (eL all a0)) (((eL all a0).take t).drop i0)).kd=2 from(by show ¬ (3:Int)=2;decide))] at *
   omega
  ·rcases b2 with⟨b2,b3⟩|b2
   ·exact .inl ⟨b2,b3,fun h=>absurd h c0,fun h=>absurd h c0⟩
   ·exact .inr b2
abbrev dz:List L:=[.d (.l []),zI 0,zB false,zI 0,zB false]
theorem Ms:call 55 [.agg dz] []=some (vl [],[]):=by
 apply ae VR rfl;refine bh ?_ RN.eq_1;refine aq (m:=0) (σ:=Unit) (fun _=>0) (fun _=>True) (fun _=>[V.one (.p 0 0),V.one (.sl 1 1 0 0),vi 0]) (fun _=>[.cells dz,.arr 1 [] 0]) (fun _=>((vl [],[]):V × Hp)) ?_ () trivial _ _ ?_
 rotate_left
 ·exact bA
 intro _ _ R hR;clear hR;refine bh ?_ Ec.eq_1 RN.eq_1;try simp[trim]
theorem Nm:call 33 [.agg dz,vl []] []=some (.tup [(true,dz),(false,[zI 0])],[]):=by
 have q:=Ms;apply ae VA rfl;refine bh ?_ Q0.eq_1 q;refine aq (m:=0) (σ:=Unit) (fun _=>0) (fun _=>True) (fun _=>[vl [],V.one (.p 0 0),V.one (.p 1 0),vl [],vi 0]) (fun _=>[.cells dz,.cells [.ns,zI 0,zB false,zI 0,zB false]]) (fun _=>((.tup [(true,dz),(false,[zI 0])],[]):V × Hp)) ?_ () trivial _ _ ?_
 rotate_left
 ·exact bA
 intro _ _ R hR;clear hR;refine bh ?_ vQ.eq_1 Q0.eq_1;try simp[trim]
theorem EU:call 10 [.agg d0.l] []=some (cf ((aH d0).1,0),[]):=by
 have e:aH d0=((aH d0).1,0):=by rw[<- Cx]
 have q1:=gv d0 (by decide) List.Pairwise.nil [109]
 have q2:=w7 d0 d0_ok (by decide) (by decide)
 rw[e] at q2;have q3:=Nm;have e3:az d0.files [109]=([],7):=by decide +kernel
 rw[e3] at q1;generalize (aH d0).1=st at *;simp only[cf,Sto.l,Dsk.l,d0,List.map_nil,List.cons_append,List.nil_append] at q1 q2 ⊢;have q4:call 27 [.agg dz] []=some (.tup [(true,[.d (.l (st.disk.files.map Fil.enc)),zI st.disk.cap,zB st.disk.armed,zI st.disk.left,zB st.disk.down,zI st.ver,.d (.l (st.segs.map Seg.enc)),zI st.next,zI st.sure,zI st.size,zW st.sum]),(false,[zI 0])],[]):=by
  apply ae VO rfl;refine bh ?_ Tn.eq_1 q3 q2;try simp[trim]
 apply ae VH rfl;refine bh ?_ tG.eq_1 q1 q4;try simp[trim]
def TU:Mg:=⟨0,0,0,0,0,0,0,0,0,0,0,0,0,[],[]⟩
def exD:List Txt:=[[97,49],[98,50],[99,51],[100,52],[101,53]]
def exC:Cnf:=wG 0 80 0 39 0 200 3 0 0 0 0 0
def To:Fw:=pu 1 3 (aH d0).1 exC
def Ry:Fw × Int:=dA To exC (jf (bL exD) 0 0 0 1)
def Qu:Fw × Int:=dA Ry.1 exC (jf (bL exD) 0 3 0 2)
def QB:Fw × Int:=dA Qu.1 exC (jf (bL exD) 0 1 0 2)
theorem R7:vq Ry.1 Qu.1=false∧Qu.1.hd.length=1:=by decide +kernel
theorem R6:vq Qu.1 QB.1=true∧QB.2=0∧QB.1.sto.next=5∧QB.1.hd.length=0:=by decide +kernel
theorem yF:call 7 [] []=some (vb true,[]):=by
 have hl:=Aq exD (by decide) (by decide)
 have hc:CI exC:=Eg _ _ _ _ _ _ _ _ _ _ _ _ (by decide)
 have q1:call 8 [.agg ([zU 0,zU 80,zU 0,zU 39,zU 0,zU 200,zU 3,zU 0,zU 0,zU 0,zU 0,zU 0]:List L)] []=some (.agg exC.l,[]):=wD 0 80 0 39 0 200 3 0 0 0 0 0 (by decide) (by decide) (by decide) (by decide) (by decide) (by decide) (by decide) (by decide) (by decide) (by decide) (by decide) (by decide)
 have q2:=EU;have q3:=vz 1 3 (aH d0).1 exC;have q4:=o9 exD (by decide)
 have h5:=(Ab hc (all:=bL exD)).hear hl.1 hl.2 hc 0 0 0 1 (by decide)
 obtain⟨q5,n1,_,⟨_,f1,_⟩|⟨_,h,_⟩⟩:=h5;rotate_left
 ·cases h
 have h6:=(f1.few hl.1 (by decide)).hear hl.1 hl.2 hc 0 3 0 2 (by decide)
 obtain⟨q6,n2,_,⟨_,f2,_⟩|⟨_,h,_⟩⟩:=h6;rotate_left
 ·cases h
 have h7:=(f2.few hl.1 (by decide)).hear hl.1 hl.2 hc 0 1 0 2 (by decide)
 obtain⟨q7,_⟩:=h7;have hd:∀ r∈bL exD,r.da.length<=64:=by decide
 have g5:call 13 [vl ((bL exD).map Rec.enc),.agg ([zU 0,zU 0,zU 0,zU 1,zI 0,zI 0,zI 0,zI 0,zI 0,zI 0,zI 0,zI 0,zI 0,zI 0,zI 0,zI 0,zW 0,.d (.s []),.d (.l [])]:List L)] []=some (.agg (jf (bL exD) 0 0 0 1).l,[]):=gP (bL exD) hd (by decide) 0 0 0 1 (by decide) (by decide) (by decide) (by decide) TU
 have g6:call 13 [vl ((bL exD).map Rec.enc),.agg ([zU 0,zU 3,zU 0,zU 2,zI 0,zI 0,zI 0,zI 0,zI 0,zI 0,zI 0,zI 0,zI 0,zI 0,zI 0,zI 0,zW 0,.d (.s []),.d (.l [])]:List L)] []=some (.agg (jf (bL exD) 0 3 0 2).l,[]):=gP (bL exD) hd (by decide) 0 3 0 2 (by decide) (by decide) (by decide) (by decide) TU
 have g7:call 13 [vl ((bL exD).map Rec.enc),.agg ([zU 0,zU 1,zU 0,zU 2,zI 0,zI 0,zI 0,zI 0,zI 0,zI 0,zI 0,zI 0,zI 0,zI 0,zI 0,zI 0,zW 0,.d (.s []),.d (.l [])]:List L)] []=some (.agg (jf (bL exD) 0 1 0 2).l,[]):=gP (bL exD) hd (by decide) 0 1 0 2 (by decide) (by decide) (by decide) (by decide) TU
 have e6:=R7;have e7:=R6;clear f1 f2 hd hl hc;have x5:dA To exC (jf (bL exD) 0 0 0 1)=Ry:=rfl;have x6:dA Ry.1 exC (jf (bL exD) 0 3 0 2)=Qu:=rfl;have x7:dA Qu.1 exC (jf (bL exD) 0 1 0 2)=QB:=rfl;have x3:pu 1 3 (aH d0).1 exC=To:=rfl;rw[x3] at q5 q6 q7 q3;rw[x5] at q5 q6 q7;rw[x6] at q6 q7;rw[x7] at q7;clear x3 x5 x6 x7;have hD:exD.map eX=[[.s [97,49]],[.s [98,50]],[.s [99,51]],[.s [100,52]],[.s [101,53]]]:=rfl;rw[hD] at q4;generalize jf (bL exD) 0 0 0 1=M5 at *;generalize jf (bL exD) 0 3 0 2=M6 at *;generalize jf (bL exD) 0 1 0 2=M7 at *;generalize (bL exD).map Rec.enc=RL at *;generalize To=F at *;generalize Ry=G at *;generalize Qu=H at *;generalize QB=I at *;generalize exC=c at *;generalize (aH d0).1=st at *;obtain⟨G,ge⟩:=G;obtain⟨H,he⟩:=H;obtain⟨I,ie⟩:=I;simp only at e6 e7 q5 q6 q7;obtain⟨e6,e6'⟩:=e6;obtain⟨e7,e8,e9,e10⟩:=e7;simp only[u7,e6,e7,e8,Fw.l,Cnf.l,Mg.l,cf,Sto.l,Dsk.l,d0,List.map_nil,List.cons_append,List.nil_append,e9] at q1 q2 q3 q5 q6 q7 g5 g6 g7;apply ae s7 rfl;refine cm ?_ a7.eq_1 q1 q2 q3 q4 g5 q5 g6 q6 g7 q7 (And.intro e6' (And.intro e10 @zM));try simp[trim]
theorem FI.v_up {p:Bool} {k u n:Nat} {all:List Rec} {c:Cnf} {v v':Int} {f:Fw} (h:FI p k u all c v n f) (hv:v<=v'):FI p k u all c v' n f :=
 ⟨h.id_,h.ic,h.st,h.sure,by have:=h.ver;omega,by have:=h.sq;omega,h.wa,h.hd,h.bo⟩
structure Kn where
 (a b c d e f g h i j k l:Nat)
structure Kn.ok (x:Kn):Prop where
 (a:x.a<256)
 (b:x.b<256)
 (c:x.c<256)
 (d:x.d<256)
 (e:x.e<256)
 (f:x.f<256)
 (g:x.g<256)
 (h:x.h<256)
 (i:x.i<256)
 (j:x.j<256)
 (k:x.k<256)
 (l:x.l<256)
def Kn.cnf (x:Kn):Cnf:=wG x.a x.b x.c x.d x.e x.f x.g x.h x.i x.j x.k x.l
def Kn.ll (x:Kn):List L:=[zU (x.a:Nat),zU (x.b:Nat),zU (x.c:Nat),zU (x.d:Nat),zU (x.e:Nat),zU (x.f:Nat),zU (x.g:Nat),zU (x.h:Nat),zU (x.i:Nat),zU (x.j:Nat),zU (x.k:Nat),zU (x.l:Nat)]
def Ip (x:Kn) (data:List Txt) (l:List Ak):List L:=[zU (x.a:Nat),zU (x.b:Nat),zU (x.c:Nat),zU (x.d:Nat),zU (x.e:Nat),zU (x.f:Nat),zU (x.g:Nat),zU (x.h:Nat),zU (x.i:Nat),zU (x.j:Nat),zU (x.k:Nat),zU (x.l:Nat),.d (.l (data.map eX)),.d (.l (l.map Ak.enc))]
theorem MD (x:Kn) (h:x.ok):call 8 [.agg x.ll] []=some (.agg x.cnf.l,[]) :=
 wD _ _ _ _ _ _ _ _ _ _ _ _ h.a h.b h.c h.d h.e h.f h.g h.h h.i h.j h.k h.l
theorem EE (seg:Int):∀ (l:List Rec) (s:Sto),dI s.disk.files->dI (jj seg l s).1.disk.files
 | [],s,h=>h
 | r::l,s,h=>by
  unfold jj;split
  ·exact ER h _ _
  ·exact EE seg l _ (ER h _ _)
theorem z6 {s:Sto} (h:dI s.disk.files) (a b e:Int):dI (oF s a b e).1.disk.files:=by
 unfold oF;split <;> exact Me h _ _
theorem FY {s:Sto} (h:dI s.disk.files) (c:Cnf) (l:List Rec):dI (dW s c l).1.disk.files:=by
 unfold dW;have h1:=EE c.seg l s h;generalize jj c.seg l s=q at *;unfold xm;split
 ·exact h1
 ·split
  ·split
   ·exact yp h1
   ·exact z6 (yp h1) _ _ _
  ·exact z6 h1 _ _ _
theorem E8 {f:Fw} (h:dI f.sto.disk.files) (c:Cnf) (m:Mg):dI (dA f c m).1.sto.disk.files:=by
 unfold dA;split
 ·unfold o5;split
  ·exact h
  ·split
   ·exact h
   ·exact FY h _ _
 ·unfold mH;split
  ·exact h
  ·split
   ·exact h
   ·split
    ·exact h
    ·unfold nu;split
     ·exact Er h _ _
     ·exact Er h _ _
variable {p:Bool} {k u n lo:Nat} {all:List Rec} {c:Cnf} {v:Int} {f:Fw} {s:Sto}
theorem FI.arm (hh:FI p k u all c v n f) (m:Int) (hm:0<=m∧m<100):FI false k u all c v n { f with sto:={ f.sto with disk:=sd f.sto.disk m } }:=by
 obtain⟨i1,i2,st,su,ve,sq,wa,hd,bo⟩:=hh;obtain⟨ok,il,⟨a,S,ha,M,g,l,h,e⟩,le,hs⟩:=st;refine⟨i1,i2,⟨⟨⟨ok.dsk.len,ok.dsk.srt,?_,ok.dsk.cap,ok.dsk.used⟩,ok.len,ok.seg,ok.next,ok.ver,ok.sum⟩,⟨il.1,fun h=>by cases h⟩,⟨a,S,ha,M,g,l,h.arm ok.dsk.srt _,e⟩,le,hs⟩,su,ve,sq,wa,hd,bo⟩
 show 0<=(if 0<m then m else 0)∧(if 0<m then m else 0)<9223372036854775808
 split <;> omega
structure Pc (k u:Nat) (all:List Rec) (m:Nat) (y:Sto):Prop where
 ok:okS k u y
 wr:∃ (f:Nat) (S:Txt),f<=m∧WR (f:Int) S (staA all f) y ((all.take m).drop f)
 le:m<=all.length
 next:y.next=m
theorem Sg.crash (h:Sg p k u all lo n s) (hin:dI s.disk.files):∃ m,lo<=m∧m<=n∧(s.sure=n->m=n)∧(cN (bO s.disk [])).2=0∧Pc k u all m (cN (bO s.disk [])).1∧(∀ m,cJ (az (bO s.disk []).files [109]).1=some m->m.ok):=by
 obtain⟨f,S,hf,hw⟩:=h.wr;have hle:=h.le;have hlo:=h.sure;obtain⟨j,j1,j2,j3,j4,_,_,_,_,j9,_,_,j12,j13⟩:=hw.crash h.ok hin [];rw[zH,zQ] at j2;refine⟨f+j,by omega,by omega,fun e=>by omega,j3,⟨j12,⟨f,S,by omega,?_⟩,by omega,by rw[j9];omega⟩,j13⟩
 have e:(all.take (f+j)).drop f=((all.take n).drop f).take j:=by
  rw[List.take_drop,List.take_take,Nat.min_eq_left (by omega)]
 rw[e];exact j4
theorem SC {r:Rec} (h:whyF r=0):(0<=r.at_∧r.at_<=1099511627776)∧(0<=r.ti∧r.ti<=1099511627776)∧r.da.length<=64:=by
 unfold whyF at h;split at h
 ·rename_i c;split at h
  ·rename_i c2;have h1:=c.1;have h2:=c.2;unfold ef at h1 h2;simp only[Bool.and_eq_true,decide_eq_true_eq] at h1 h2;exact⟨h1,h2,c2⟩
  ·cases h
 ·cases h
theorem WU (a b:Int) (d:Txt):kT [0,0,2] [L.d (D.i .i64 a),L.d (D.i .i64 b),L.d (D.s d)] [L.d (D.i .i64 a),L.d (D.i .i64 b),L.d (D.s d)]=some true:=by
 simp[kT,uO]
theorem M3 (x:Kn) (hx:x.ok) (data:List Txt) (hd:data.length<=9223372036854775807) (hds:∀ d∈data,d.length<=9223372036854775807) (l:List Ak) (hl:l.length<=9223372036854775807) (ho:∀ x∈l,x.ok) (fu:Nat) (hfu:fu<256) (z:Ak) (hz:z.ok) :
  call 4 [.agg (Ip x data l),.one (zU (fu:Nat)),.agg (zb z.kd z.a z.i z.n z.m)] []=some (vb true,[]):=by
 obtain⟨b,q1,hb⟩:=uz data hd hds l hl ho;obtain⟨b2,q1b,_⟩:=uz [] (by simp) (by simp) [z] (by simp) (by simpa using hz)
 have q2:=yF;unfold Ip;simp only[List.map_nil,List.map_cons,Ak.enc] at q1b;unfold zb;apply ae s4 rfl;cases b with
 | false =>
  refine bh ?_ a4.eq_1 q1 q2;try simp[trim]
 | true =>
  cases b2 with
  | false =>
   refine cm ?_ a4.eq_1 q1 q1b q2;try simp[trim]
  | true =>
   obtain⟨h1,h2,h3⟩:=hb rfl;have q3:=MD x hx;have q4:=o9 data (by omega)
   have q5:=EU;have q6:=vz 1 3 (aH d0).1 x.cnf;obtain⟨ha,ht⟩:=Aq data h1 h3;have hdl:∀ r∈bL data,r.da.length<=64:=fun r hr=>(SC (ha.why r hr)).2.2
   have hc:CI x.cnf:=Eg _ _ _ _ _ _ _ _ _ _ _ _ hx.f;have hf:=Ab hc (all:=bL data);have hin0:dI (pu 1 3 (aH d0).1 x.cnf).sto.disk.files:=G6 (d:=d0) (fun x hx=>by cases hx)
   have hal:=ha.len;generalize bL data=all at *;generalize x.cnf=c at *;generalize pu 1 3 (aH d0).1 c=f0 at *;generalize (aH d0).1=st at *;simp only[Kn.ll,Cnf.l,Fw.l,cf,Sto.l,Dsk.l,d0,List.map_nil,List.cons_append,List.nil_append] at q3 q5 q6;refine cm ?_ a4.eq_1 q1 q1b q3 q4 q5 q6 @zM;refine aq (m:=0) (σ:=Nat × Nat × Fw) (fun t=>l.length-t.1) (fun t=>t.1<=l.length∧FI true 70 300000 all c (1+32*(t.1:Nat)) t.2.1 t.2.2∧dI t.2.2.sto.disk.files) (fun t=>[V.one (zU (fu:Nat)),V.one (.p 0 0),V.one (.p 1 0),V.one (.p 2 0),vl (all.map Rec.enc),V.one (.p 3 0),vi t.1])
    (fun t=>[.cells [zU (x.a:Nat),zU (x.b:Nat),zU (x.c:Nat),zU (x.d:Nat),zU (x.e:Nat),zU (x.f:Nat),zU (x.g:Nat),zU (x.h:Nat),zU (x.i:Nat),zU (x.j:Nat),zU (x.k:Nat),zU (x.l:Nat),.d (.l (data.map eX)),.d (.l (l.map Ak.enc))],.cells (zb z.kd z.a z.i z.n z.m),.cells c.l,.cells (Fw.l t.2.2)]) (fun _=>((vb true,[]):V × Hp)) ?_ (0,0,f0) ⟨zP _,hf.v_up (by simp only[];omega),hin0⟩ _ _ ?_
   rotate_left
   ·exact bA
   clear q3 q5 q6 hf hin0;rintro⟨i,n,f⟩ ⟨h4,hh,hin⟩ R hR;simp only[Fw.l,Cnf.l,zb] at h4 hh hin ⊢;by_cases ci:i<l.length
   ·have hci:(i:Int)<(l.length:Int):=by omega
    have g1:(l.map Ak.enc)[i]?=some l[i].enc:=by rw[zG,zE ci];rfl
    have hy:=ho _ (zN ci);have hR2:=fun n g hg=>hR (i+1,n,g) (by simp only[];omega) ⟨by simp only[];omega,hg⟩
    clear hR;generalize l[i]=y at *;have r6:((y.kd:Nat):Int).tmod 6=((y.kd % 6:Nat):Int):=gF y.kd 6 (by decide)
    simp only[Ak.enc] at g1;by_cases c2:y.kd % 6<2
    ·have c2':((y.kd % 6:Nat):Int)<2:=by omega
     have g2:=gP all hdl (by omega) y.kd y.a y.i y.n hy.kd hy.a hy.i hy.n y.m
     obtain⟨q8,n',_,⟨_,f1,_⟩|⟨_,h,_⟩⟩:=hh.hear ha ht hc y.kd y.a y.i y.n hy.n;rotate_left
     ·cases h
     have hK:=hR2 n' _ ⟨(f1.few ha (by omega)).v_up (by simp only[];omega),E8 hin c (jf all y.kd y.a y.i y.n)⟩
     clear hR2 f1 hh hin;generalize jf all y.kd y.a y.i y.n=m at *;generalize dA f c m=G at *;obtain⟨g,e⟩:=G;simp only[zb,u7,Fw.l,Cnf.l,Mg.l] at g2 q8 hK;refine cm ?_ KD.eq_1 (zT hci) g1 r6 (zT c2') g2 q8 @zM;exact hK _ _ bA
    ·have c2':¬ ((y.kd % 6:Nat):Int)<2:=by omega
     have hK:=hR2 n f ⟨hh.v_up (by simp only[];omega),hin⟩
     clear hR2;simp only[zb,Fw.l,Cnf.l] at hK;refine cm ?_ KD.eq_1 (zT hci) g1 r6 (zF c2') @zM;exact hK _ _ bA
   ·have hci:¬ (i:Int)<(l.length:Int):=by omega
    clear hR;have hh:FI true 70 300000 all c 4000 n f:=hh.v_up (by omega)
    have hsl:=hh.st.len ha;have e1:¬ ((f.sto.segs.length:Nat):Int)=0:=by omega
    have hfx:=hh.st.next;obtain⟨w,hw⟩:∃ w:Nat,w=fu % 24:=⟨_,rfl⟩;have hw24:w<24:=by omega
    have r24:((fu:Nat):Int).tmod 24=((w:Nat):Int):=by rw[hw];exact gF fu 24 (by decide)
    have q9:=HT f.sto.disk ((w:Nat):Int) (by omega)
    have hb:=hh.arm ((w:Nat):Int) (by omega)
    have hinb:dI ({ f with sto:={ f.sto with disk:=sd f.sto.disk ((w:Nat):Int) } }:Fw).sto.disk.files:=hin
    have r2:((z.kd:Nat):Int).tmod 2=((z.kd % 2:Nat):Int):=gF z.kd 2 (by decide)
    have g2:=gP all hdl (by omega) (z.kd % 2) z.a z.i z.n (by omega) hz.a hz.i hz.n z.m
    obtain⟨q8,hp⟩:=hb.hear ha ht hc (z.kd % 2) z.a z.i z.n hz.n;have hin2:=E8 hinb c (jf all (z.kd % 2) z.a z.i z.n);obtain⟨b0,hb0⟩:∃ b:Fw,b={ f with sto:={ f.sto with disk:=sd f.sto.disk ((w:Nat):Int) } }:=⟨_,rfl⟩
    have e0:b0.l=[zI f.id_,zI f.ic,.d (.l ((sd f.sto.disk ((w:Nat):Int)).files.map Fil.enc)),.d (.i .i64 (sd f.sto.disk ((w:Nat):Int)).cap),.d (.b (sd f.sto.disk ((w:Nat):Int)).armed),.d (.i .i64 (sd f.sto.disk ((w:Nat):Int)).left),.d (.b (sd f.sto.disk ((w:Nat):Int)).down),zI f.sto.ver,.d (.l (f.sto.segs.map Seg.enc)),zI f.sto.next,zI f.sto.sure,zI f.sto.size,zW f.sto.sum,zI f.sq,zI f.wa,.d (.l (f.hd.map hE)),zI f.bo.at_,zI f.bo.sz,zW f.bo.su,zS f.bo.got,zI f.hi]:=by rw[hb0];rfl
    rw[<- hb0] at q8 hp hin2;have key:∃ (m:Nat) (e:Int) (g:Fw) (y:Sto) (d2:Dsk) (hl:Bool),n<=m∧(e=10∨(e=0∧g.sto.next=m))∧Pc 132 353000 all m y∧call 12 [.agg b0.l,.agg c.l,.agg (jf all (z.kd % 2) z.a z.i z.n).l] []=some (.tup [(true,g.l),(false,[zB hl]),(false,[zI e])],[]) ∧
      call 16 [.agg g.sto.disk.l,vl []] []=some (.agg d2.l,[])∧call 10 [.agg d2.l] []=some (cf (y,0),[]):=by
     obtain⟨n',hn,hp⟩:=hp;generalize dA b0 c (jf all (z.kd % 2) z.a z.i z.n)=G at *;obtain⟨g,e⟩:=G;simp only at hp hin2;rcases hp with⟨h5,h6,_⟩|⟨h5,_,h6⟩
     ·obtain⟨m,m1,m2,m3,m4,m5,m6⟩:=h6.st.crash hin2;have hm:=m3 h6.sure;have hnn:=h6.st.next;refine⟨m,e,g,_,_,vq b0 g,by omega,.inr ⟨h5,by omega⟩,m5,q8,tg g.sto.disk (Nat.le_trans h6.st.ok.dsk.len (by decide)) (Nat.le_trans h6.st.ok.dsk.used (by decide)) hin2 [] (by simp) (by simp),?_⟩
      rw[uB (bO g.sto.disk []) (rH h6.st.ok.dsk []) (by decide) (by decide) m6]
      rw[<- m4]
     ·obtain⟨m,m1,m2,m3,m4,m5,m6⟩:=h6.crash hin2;refine⟨m,e,g,_,_,vq b0 g,by omega,.inl h5,m5,q8,tg g.sto.disk (Nat.le_trans h6.ok.dsk.len (by decide)) (Nat.le_trans h6.ok.dsk.used (by decide)) hin2 [] (by simp) (by simp),?_⟩
      rw[uB (bO g.sto.disk []) (rH h6.ok.dsk []) (by decide) (by decide) m6]
      rw[<- m4]
    clear hp hin2 hb hinb hh hin q8 hsl;obtain⟨m,e,g,y,d2,hl2,k1,k2,k3,q8,q10,q11⟩:=key;rw[e0] at q8;clear e0 hb0 b0;have p1:=ng y;have p2:=xp y k3.ok (by decide) (by decide)
    have hny:=k3.next;have hle:=k3.le;obtain⟨lo,S,hlo,hw⟩:=k3.wr;have hfl:=hw.floor;rw[hfl] at p1;have p5:=CW y k3.ok (by decide) (by decide) y.next (by omega)
    have hst:bC y y.next=staA all m:=by
     rw[hny,hw.stT k3.ok m (by omega),Eb all lo m m (by omega) (Int.le_refl _)];rfl
    rw[hst] at p5;have hsta:=ha.sta m;have p6:=uy [] List.Pairwise.nil (fun p hp=>by cases hp) (all.take m) (by rw[zQ];omega) (fun r hr=>hdl r (zZ hr))
    have hfo:df [] (all.take m)=staA all m:=rfl;rw[hfo] at p6;have p7:=CX (staA all m) (by omega)
    have hrg:∀ j,lo+j<m->∃ h:lo+j<all.length,mO y ((lo:Int)+j)=.tup [(true,all[lo+j].enc.map .d),(false,[zI 0])]:=fun j hj=>by
     have hjl:lo+j<all.length:=by omega
     refine⟨hjl,?_⟩;rw[hw.rget k3.ok j (by rw[zH,zQ];omega)]
     rw[List.getElem_drop,List.getElem_take]
    have htk:List.take y.next.toNat (all.map Rec.enc)=(all.take m).map Rec.enc:=by rw[hny,Int.toNat_natCast,List.map_take]
    have hnb:0<=y.next∧y.next<=(all.length:Int):=by omega
    have hokr:aV 3 (all.map Rec.enc)=true:=aZ Rec.len _;have hys:¬ ((y.segs.length:Nat):Int)=0:=by have:=k3.ok.len;omega
    have t1:¬ y.next<f.sto.next:=by omega
    have t2:¬ (all.length:Int)<y.next:=by omega
    have t3:e=10∨(e=0∧g.sto.next=y.next):=by
     rcases k2 with h|⟨h,h2⟩
     ·exact .inl h
     ·exact .inr ⟨h,by omega⟩
    clear k2 k3 hst hfo hsta hw;generalize jf all (z.kd % 2) z.a z.i z.n=mm at *;generalize sd f.sto.disk ((w:Nat):Int)=d3 at *;generalize staA all m=q at *;have hcell:∀ s:Sto,s.l=[.d (.l (s.disk.files.map Fil.enc)),zI s.disk.cap,zB s.disk.armed,zI s.disk.left,zB s.disk.down,zI s.ver,.d (.l (s.segs.map Seg.enc)),zI s.next,zI s.sure,zI s.size,zW s.sum]:=fun _=>rfl
    simp only[hcell,List.map_nil] at p1 p2 p5 p6;simp only[cf,hcell,zb,Fw.l,Cnf.l,Mg.l,Dsk.l] at q8 q9 q10 q11 g2;rcases t3 with t3|⟨t3,t4⟩ <;> subst t3
    all_goals
     first
     | (refine cm ?_ KD.eq_1 a4.eq_1 (decide_eq_false hci) (eq_false e1) r24 r2 q9 g2 q8 q10 q11 (And.intro (decide_eq_false t1) (And.intro (decide_eq_false t2) (And.intro (eq_false hys) (And.intro p1 (And.intro t4 @zM)))));try exact True.intro)
     | (refine cm ?_ KD.eq_1 a4.eq_1 (decide_eq_false hci) (eq_false e1) r24 r2 q9 g2 q8 q10 q11 (And.intro (decide_eq_false t1) (And.intro (decide_eq_false t2) (And.intro (eq_false hys) (And.intro p1 @zM))));try exact True.intro)
     clear q8 q9 q10 q11 g2 t1 t2 p1 q1 q1b;refine aq (m:=0) (σ:=Nat) (fun j=>m-(lo+j)) (fun j=>lo+j<=m) (fun j=>[vl (all.map Rec.enc),V.one (.p 0 0),vi ((lo:Int)+j)])
      (fun _=>[.cells [.d (.l (y.disk.files.map Fil.enc)),zI y.disk.cap,zB y.disk.armed,zI y.disk.left,zB y.disk.down,zI y.ver,.d (.l (y.segs.map Seg.enc)),zI y.next,zI y.sure,zI y.size,zW y.sum]]) (fun _=>((vb true,[]):V × Hp)) ?_ 0 (by omega) _ _ ?_
     rotate_left
     ·simp only[Int.ofNat_zero,Int.add_zero];exact bA
     intro j hj R hR;by_cases cj:lo+j<m
     ·have hcj:(lo:Int)+(j:Int)<y.next:=by omega
      obtain⟨hjl,e3⟩:=hrg j cj;have p8:=p2 ((lo:Int)+j);rw[e3] at p8;have ej:((lo:Int)+(j:Int))=((lo+j:Nat):Int):=by omega
      have g1:(all.map Rec.enc)[lo+j]?=some all[lo+j].enc:=by rw[zG,zE hjl];rfl
      have hK:=hR (j+1) (by omega) (by omega)
      have ej2:((lo:Int)+((j+1:Nat):Int))=((lo+j:Nat):Int)+1:=by omega
      rw[ej2] at hK;rw[ej] at p8 hcj ⊢;clear hR p2 hrg;generalize lo+j=w at *;generalize all[w]=r at *;obtain⟨ra,rb,rd⟩:=r;simp only[Rec.enc,List.map_cons,List.map_nil] at p8 g1;refine bh ?_ NV.eq_1 (zT hcj) p8 g1 @WU @zM;exact hK _ _ bA
     ·have hcj:¬ (lo:Int)+(j:Int)<y.next:=by omega
      clear hR p2 hrg;refine bh ?_ NV.eq_1 a4.eq_1 (zF hcj) q2 p5 p6 p7 htk hokr @zM;try simp[trim]
theorem iM {n:Int} (h1:IntKind.u8.min<=n) (h2:n<=IntKind.u8.max):∃ j:Nat,n=j∧j<256:=by
 have a1:(0:Int)<=n:=h1;have a2:n<=255:=h2;exact⟨n.toNat,by omega,by omega⟩
abbrev S5:List Ty:=[.i .u8,.i .u8,.i .u8,.i .u8,.i .i64,.i .i64,.i .i64,.i .i64,.i .i64,.i .i64,.i .i64,.i .i64,.i .i64,.i .i64,.i .i64,.i .i64,.i .u32,.s,.l [.i .i64,.i .i64,.s]]
theorem Ak.of (r:List D) (h:du S5 r):∃ x:Ak,r=x.enc∧x.ok:=by
 simp only[du,KT] at h;obtain⟨_,_,rfl,⟨a,rfl,a1,a2⟩,_,_,rfl,⟨b,rfl,b1,b2⟩,_,_,rfl,⟨c,rfl,c1,c2⟩,_,_,rfl,⟨d,rfl,d1,d2⟩,_,_,rfl,⟨e0,rfl,_⟩,_,_,rfl,⟨e1,rfl,_⟩,_,_,rfl,⟨e2,rfl,_⟩,_,_,rfl,⟨e3,rfl,_⟩,
  _,_,rfl,⟨e4,rfl,_⟩,_,_,rfl,⟨e5,rfl,_⟩,_,_,rfl,⟨e6,rfl,_⟩,_,_,rfl,⟨e7,rfl,_⟩,_,_,rfl,⟨e8,rfl,_⟩,_,_,rfl,⟨e9,rfl,_⟩,_,_,rfl,⟨e10,rfl,_⟩,_,_,rfl,⟨e11,rfl,_⟩,_,_,rfl,⟨su,rfl,_⟩,_,_,rfl,⟨da,rfl,_⟩,_,_,rfl,⟨rows,rfl,hl,hr⟩,rfl⟩:=h
 obtain⟨rs,rfl,hrs⟩:=qq Rec.of rows hr;obtain⟨a',rfl,ha⟩:=iM a1 a2;obtain⟨b',rfl,hb⟩:=iM b1 b2;obtain⟨c',rfl,hc⟩:=iM c1 c2;obtain⟨d',rfl,hd⟩:=iM d1 d2;exact⟨⟨a',b',c',d',⟨e0,e1,e2,e3,e4,e5,e6,e7,e8,e9,e10,e11,su,da,rs⟩⟩,rfl,ha,hb,hc,hd,by simpa using hl,hrs⟩
theorem Px (r:List D) (h:du [.s] r):∃ x:Txt,r=eX x∧x.length<=9223372036854775807:=by
 simp only[du,KT] at h;obtain⟨_,_,rfl,⟨x,rfl,hx⟩,rfl⟩:=h;exact⟨x,rfl,hx⟩
abbrev N3:List Ty:=[.i .u8,.i .u8,.i .u8,.i .u8,.i .u8,.i .u8,.i .u8,.i .u8,.i .u8,.i .u8,.i .u8,.i .u8,.l [.s],.l S5]
theorem Dc (T:List Ty) (ds:List D) (h:du [.i .u8,.i .u8,.i .u8,.i .u8,.i .u8,.i .u8,.i .u8,.i .u8,.i .u8,.i .u8,.i .u8,.i .u8,.l [.s],.l T] ds) :
  ∃ (x:Kn) (rows rows2:List (List D)),ds=[.i .u8 (x.a:Nat),.i .u8 (x.b:Nat),.i .u8 (x.c:Nat),.i .u8 (x.d:Nat),.i .u8 (x.e:Nat),.i .u8 (x.f:Nat),.i .u8 (x.g:Nat),.i .u8 (x.h:Nat),.i .u8 (x.i:Nat),.i .u8 (x.j:Nat),.i .u8 (x.k:Nat),.i .u8 (x.l:Nat),.l rows,.l rows2]∧x.ok∧(rows.length<=9223372036854775807∧∀ r∈rows,du [.s] r)∧(rows2.length<=9223372036854775807∧∀ r∈rows2,du T r):=by
 simp only[du,KT] at h;obtain⟨_,_,rfl,⟨a0,rfl,a1,a2⟩,_,_,rfl,⟨b0,rfl,b1,b2⟩,_,_,rfl,⟨c0,rfl,c1,c2⟩,_,_,rfl,⟨d0,rfl,d1,d2⟩,_,_,rfl,⟨e0,rfl,e1,e2⟩,_,_,rfl,⟨f0,rfl,f1,f2⟩,_,_,rfl,⟨g0,rfl,g1,g2⟩,_,_,rfl,⟨h0,rfl,h1,h2⟩,_,_,rfl,⟨i0,rfl,i1,i2⟩,_,_,rfl,⟨j0,rfl,j1,j2⟩,_,_,rfl,⟨k0,rfl,k1,k2⟩,_,_,rfl,⟨l0,rfl,l1,l2⟩,_,_,rfl,⟨rows,rfl,m1,m2⟩,_,_,rfl,⟨rows2,rfl,n1,n2⟩,rfl⟩:=h;obtain⟨a,rfl,a3⟩:=iM a1 a2;obtain⟨b,rfl,b3⟩:=iM b1 b2;obtain⟨c,rfl,c3⟩:=iM c1 c2;obtain⟨d,rfl,d3⟩:=iM d1 d2;obtain⟨e,rfl,e3⟩:=iM e1 e2;obtain⟨f,rfl,f3⟩:=iM f1 f2;obtain⟨g,rfl,g3⟩:=iM g1 g2;obtain⟨h,rfl,h3⟩:=iM h1 h2;obtain⟨i,rfl,i3⟩:=iM i1 i2;obtain⟨j,rfl,j3⟩:=iM j1 j2;obtain⟨k,rfl,k3⟩:=iM k1 k2;obtain⟨l,rfl,l3⟩:=iM l1 l2;refine⟨⟨a,b,c,d,e,f,g,h,i,j,k,l⟩,rows,rows2,rfl,⟨a3,b3,c3,d3,e3,f3,g3,h3,i3,j3,k3,l3⟩,⟨m1,fun r hr=>?_⟩,n1,n2⟩
 simp only[du,KT];exact m2 r hr
theorem GI (v:V) (h:Sf (true,N3) v):∃ (x:Kn) (data:List Txt) (l:List Ak),v=.agg (Ip x data l)∧x.ok∧(data.length<=9223372036854775807∧∀ d∈data,d.length<=9223372036854775807)∧(l.length<=9223372036854775807∧∀ x∈l,x.ok):=by
 obtain⟨ds,rfl,hd⟩:=h;obtain⟨x,rows,rows2,rfl,hx,⟨m1,m2⟩,n1,n2⟩:=Dc S5 ds hd;obtain⟨data,rfl,hda⟩:=qq Px rows m2;obtain⟨l,rfl,hl⟩:=qq Ak.of rows2 n2;exact⟨x,data,l,rfl,hx,⟨by simpa using m1,hda⟩,by simpa using n1,hl⟩
theorem followerCrash_pure (xs:List V) (h:PZ [(true,N3),(false,[.i .u8]),(true,S5)] xs):call 4 xs []=some (vb true,[]):=by
 obtain⟨_,_,rfl,h1,_,_,rfl,h2,_,_,rfl,h3,rfl⟩:=h;obtain⟨x,data,l,rfl,hx,hd,hl⟩:=GI _ h1;obtain⟨_,rfl,h2⟩:=h2;simp only[du,KT] at h2;obtain⟨_,_,e,⟨n,rfl,a1,a2⟩,rfl⟩:=h2;obtain⟨fu,rfl,hf⟩:=iM a1 a2;cases e;obtain⟨ds,rfl,h3⟩:=h3;obtain⟨z,rfl,hz⟩:=Ak.of ds h3;exact M3 x hx data hd.1 hd.2 l hl.1 hl.2 fu hf z hz
end Go.Proofs.YtgoifbjgmgbihaaGreat
