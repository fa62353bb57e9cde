import Derived.Test.YtgoifbjgmgbihaaGreatT09
import Derived.Test.YtgoifbjgmgbihaaGreatT06
import Derived.Test.YtgoifbjgmgbihaaGreatT07
import Derived.Test.YtgoifbjgmgbihaaGreatVid
import Derived.Test.YtgoifbjgmgbihaaGreatT05
import Derived.Test.YtgoifbjgmgbihaaGreatT02
set_option linter.unusedSimpArgs false
set_option linter.unusedVariables false
set_option maxRecDepth 20000
set_option maxHeartbeats 16000000
namespace Go.Proofs.YtgoifbjgmgbihaaGreat
open Go.Vi
structure Cnf where
 nodes:Int
 seg:Int
 keep:Int
 count:Int
 batch:Int
 most:Int
 window:Int
 held:Int
 chunk:Int
 pending:Int
 links:Int
 beat:Int
 retry:Int
 lease:Int
 top:Int
 deriving DecidableEq
def Cnf.enc (e:Cnf):List D:=[.i .i64 e.nodes,.i .i64 e.seg,.i .i64 e.keep,.i .i64 e.count,.i .i64 e.batch,.i .i64 e.most,.i .i64 e.window,.i .i64 e.held,.i .i64 e.chunk,.i .i64 e.pending,.i .i64 e.links,.i .i64 e.beat,.i .i64 e.retry,.i .i64 e.lease,.i .i64 e.top]
def Cnf.ok (e:Cnf):Prop:=(-9223372036854775808<=e.nodes∧e.nodes<9223372036854775808)∧(-9223372036854775808<=e.seg∧e.seg<9223372036854775808)∧(-9223372036854775808<=e.keep∧e.keep<9223372036854775808)∧(-9223372036854775808<=e.count∧e.count<9223372036854775808)∧(-9223372036854775808<=e.batch∧e.batch<9223372036854775808)∧(-9223372036854775808<=e.most∧e.most<9223372036854775808)∧(-9223372036854775808<=e.window∧e.window<9223372036854775808)∧(-9223372036854775808<=e.held∧e.held<9223372036854775808)∧(-9223372036854775808<=e.chunk∧e.chunk<9223372036854775808)∧(-9223372036854775808<=e.pending∧e.pending<9223372036854775808)∧(-9223372036854775808<=e.links∧e.links<9223372036854775808)∧(-9223372036854775808<=e.beat∧e.beat<9223372036854775808)∧(-9223372036854775808<=e.retry∧e.retry<9223372036854775808)∧(-9223372036854775808<=e.lease∧e.lease<9223372036854775808)∧(-9223372036854775808<=e.top∧e.top<9223372036854775808)
def Cnf.ty:List Ty:=[.i .i64,.i .i64,.i .i64,.i .i64,.i .i64,.i .i64,.i .i64,.i .i64,.i .i64,.i .i64,.i .i64,.i .i64,.i .i64,.i .i64,.i .i64]
structure Mg where
 kd:Int
 fr:Int
 tt:Int
 ic:Int
 pe:Int
 sq:Int
 at_:Int
 wi:Int
 hi:Int
 wa:Int
 ix:Int
 sz:Int
 su:Int
 da:Txt
 rs:List Rec
structure Boo where
 at_:Int
 sz:Int
 su:Int
 got:Txt
structure Fw where
 id_:Int
 ic:Int
 sto:Sto
 sq:Int
 wa:Int
 hd:List (List Rec)
 bo:Boo
 hi:Int
def Boo.l (b:Boo):List L:=[zI b.at_,zI b.sz,zW b.su,zS b.got]
def Cnf.l (c:Cnf):List L:=[zI c.nodes,zI c.seg,zI c.keep,zI c.count,zI c.batch,zI c.most,zI c.window,zI c.held,zI c.chunk,zI c.pending,zI c.links,zI c.beat,zI c.retry,zI c.lease,zI c.top]
def Mg.l (m:Mg):List L:=[zI m.kd,zI m.fr,zI m.tt,zI m.ic,zI m.pe,zI m.sq,zI m.at_,zI m.wi,zI m.hi,zI m.wa,zI m.ix,zI m.sz,zW m.su,zS m.da,.d (.l (m.rs.map Rec.enc))]
def Fw.l (f:Fw):List L:=[zI f.id_,zI f.ic,.d (.l (f.sto.disk.files.map Fil.enc)),zI f.sto.disk.cap,zB f.sto.disk.armed,zI f.sto.disk.left,zB f.sto.disk.down,zI f.sto.ver,.d (.l (f.sto.segs.map Seg.enc)),zI f.sto.next,zI f.sto.sure,zI f.sto.size,zW f.sto.sum,zI f.sq,zI f.wa,.d (.l (f.hd.map hE)),zI f.bo.at_,zI f.bo.sz,zW f.bo.su,zS f.bo.got,zI f.hi]
def aR (f:Fw) (c:Cnf) (m:Mg):List L:=[zI f.id_,zI f.ic,.d (.l (f.sto.disk.files.map Fil.enc)),zI f.sto.disk.cap,zB f.sto.disk.armed,zI f.sto.disk.left,zB f.sto.disk.down,zI f.sto.ver,.d (.l (f.sto.segs.map Seg.enc)),zI f.sto.next,zI f.sto.sure,zI f.sto.size,zW f.sto.sum,zI f.sq,zI f.wa,.d (.l (f.hd.map hE)),zI f.bo.at_,zI f.bo.sz,zW f.bo.su,zS f.bo.got,zI f.hi,zI c.nodes,zI c.seg,zI c.keep,zI c.count,zI c.batch,zI c.most,zI c.window,zI c.held,zI c.chunk,zI c.pending,zI c.links,zI c.beat,zI c.retry,zI c.lease,zI c.top,zI m.kd,zI m.fr,zI m.tt,zI m.ic,zI m.pe,zI m.sq,zI m.at_,zI m.wi,zI m.hi,zI m.wa,zI m.ix,zI m.sz,zW m.su,zS m.da,.d (.l (m.rs.map Rec.enc))]
def jj (seg:Int):List Rec->Sto->Sto × Int
 | [],s=>(s,0)
 | r::l,s=>if(eQ s seg r).2≠0 then eQ s seg r else jj seg l (eQ s seg r).1
def oF (s:Sto) (keep count e:Int):Sto × Int:=if(cY s keep count).2=10 then((cY s keep count).1,10) else((cY s keep count).1,e)
def xm (was keep count:Int) (a:Sto × Int):Sto × Int :=
 if a.2=10 then a else if was<a.1.next then(if(aW a.1).2≠0 then aW a.1 else oF (aW a.1).1 keep count a.2) else oF a.1 keep count a.2
def dW (s:Sto) (c:Cnf) (l:List Rec):Sto × Int:=xm s.next c.keep c.count (jj c.seg l s)
theorem Df (seg:Int) (l:List Rec) (i:Nat) (h:i<l.length) (s:Sto):jj seg (l.drop i) s=if(eQ s seg l[i]).2≠0 then eQ s seg l[i] else jj seg (l.drop (i+1)) (eQ s seg l[i]).1:=by
 rw[zD h];rfl
structure Go1 (k u n:Nat) (s:Sto):Prop where
 ok:okS k u s
 wr:∃ f S l0 R,WR f S l0 s R∧R.length<=n
theorem Go1.base {k u n:Nat} {s:Sto} (h:Go1 k u n s):∀ g∈s.segs,g.base<=s.floor+n:=by
 obtain⟨f,S,l0,R,hw,hn⟩:=h.wr;have hf:=hw.floor;have hx:=hw.next;obtain⟨M,g0,l,w,rfl⟩:=hw;intro g hg;rw[w.inv.segs] at hg;have hl:=im _ _ _ w.inv.chain;have hnx:=w.inv.next;rw[hf];have e:(aQ (M++[(g0,l)])).length=(aQ M).length+l.length:=by rw[cH,dO,zA]
 rcases zX.1 hg with hg|hg
 ·obtain⟨p,hp,rfl⟩:=List.mem_map.1 hg;have:=pL w.inv.chain p hp;omega
 ·rw[zV.1 hg];omega
theorem Go1.app {k u n:Nat} {s:Sto} (h:Go1 k u n s) {seg:Int} (hseg:1<=seg) (hu:u<1000000000000) (r:Rec):Go1 (k+2) (u+1000) (n+1) (eQ s seg r).1:=by
 obtain⟨f,S,l0,R,hw,hn⟩:=h.wr;refine⟨ET h.ok seg r,?_⟩;rcases(hw.app h.ok hseg hu r).2.2 with⟨_,_,_,_,_,h1⟩|⟨h1,_⟩
 ·exact⟨_,_,_,_,h1,by simp;omega⟩
 ·exact⟨_,_,_,_,h1,by omega⟩
theorem Go1.sync {k u n:Nat} {s:Sto} (h:Go1 k u n s):Go1 k u n (aW s).1:=by
 obtain⟨f,S,l0,R,hw,hn⟩:=h.wr;exact⟨lE h.ok,_,_,_,_,(hw.sync h.ok).1,hn⟩
theorem Go1.same {k u n:Nat} {s:Sto} (h:Go1 k u n s):∀ g∈s.segs,ne s g.base=bC s g.base:=by
 obtain⟨f,S,l0,R,hw,hn⟩:=h.wr;exact hw.same_state h.ok
theorem Go1.up {k u n k' u' n':Nat} {s:Sto} (h:Go1 k u n s) (hk:k<=k') (hu:u<=u') (hn:n<=n'):Go1 k' u' n' s:=by
 obtain⟨f,S,l0,R,hw,hr⟩:=h.wr;exact⟨h.ok.up hk hu,f,S,l0,R,hw,by omega⟩
theorem yN {k u n:Nat} (f:Fw) (c:Cnf) (m:Mg) (hg:Go1 k u n f.sto) (l:List Rec) (hl:l.length<=200) (hr:∀ r∈l,r.ok) (hseg:1<=c.seg) (hk:k+2*l.length<=400000) (hu:u+1000*l.length<=900000) (hn:n+l.length<=1000) :
  call 63 [.one (.p 0 0),vl (l.map Rec.enc)] [.cells (aR f c m)]=some (vi (dW f.sto c l).2,[.cells (aR { f with sto:=(dW f.sto c l).1 } c m)]):=by
 have hcell:∀ s:Sto,s.l=[.d (.l (s.disk.files.map Fil.enc)),zI s.disk.cap,zB s.disk.armed,zI s.disk.left,zB s.disk.down,zI s.ver,.d (.l (s.segs.map Seg.enc)),zI s.next,zI s.sure,zI s.size,zW s.sum]:=fun _=>rfl
 obtain⟨Z,hZ⟩:∃ Z,Z=dW f.sto c l:=⟨_,rfl⟩;rw[<- hZ];unfold dW at hZ;apply ae Wk rfl;simp only[aR];refine cm ?_ Gu.eq_1 @zM;refine aq (m:=1) (σ:=Nat × Sto) (fun t=>l.length-t.1) (fun t=>t.1<=l.length∧Go1 (k+2*t.1) (u+1000*t.1) (n+t.1) t.2∧Z=xm f.sto.next c.keep c.count (jj c.seg (l.drop t.1) t.2)) (fun t=>[V.one (.p 0 0),vi f.sto.next,vi 0,vl (l.map Rec.enc),vi l.length,vi t.1])
  (fun t=>[.cells (aR { f with sto:=t.2 } c m)]) (fun _=>((vi Z.2,[.cells (aR { f with sto:=Z.1 } c m)]):V × Hp)) ?_ (0,f.sto) ⟨zP _,hg,hZ⟩ _ _ ?_
 rotate_left
 ·exact bA
 clear hZ hg;rintro⟨i,s⟩ ⟨h1,hg,hZ⟩ R hR;simp only[aR] at h1 hg hZ ⊢;by_cases ci:i<l.length
 ·have hc:(i:Int)<(l.length:Int):=by omega
  have g1:(l.map Rec.enc)[i]?=some l[i].enc:=by rw[zG,zE ci];rfl
  rw[Df c.seg l i ci] at hZ;have q1:=DA s hg.ok (by omega) (by omega) c.seg l[i] (hr _ (zN ci))
  replace hg:=hg.app hseg (by omega) l[i]
  have hR':=hR (i+1,(eQ s c.seg l[i]).1);generalize eQ s c.seg l[i]=w at *;generalize l[i]=r at *;clear hR;obtain⟨s,e⟩:=w;obtain⟨ra,rb,rd⟩:=r;simp only[cf,hcell,Rec.enc,List.map_cons,List.map_nil] at q1 g1 hg hZ hR';by_cases ce:e=0
  ·subst ce;rw[if_neg (by simp)] at hZ
   have hK:=hR' (by omega) ⟨by omega,hg.up (by omega) (by omega) (by omega),hZ⟩
   refine cm ?_ lM.eq_1 (zT hc) g1 q1;exact hK _ _ bA
  ·rw[if_pos ce] at hZ;clear hR';unfold xm at hZ;simp only at hZ;by_cases c10:e=10
   ·rw[if_pos c10] at hZ;rw[hZ];refine cm ?_ lM.eq_1 Gu.eq_1 (zT hc) g1 q1 (eq_false ce) (eq_true c10);simp[zR,c10]
   ·rw[if_neg c10] at hZ;by_cases cn:f.sto.next<s.next
    ·rw[if_pos cn] at hZ;have q4:=qT s hg.ok (by omega) (by omega)
     replace hg:=hg.sync
     rw[hZ];generalize aW s=y at *;obtain⟨y1,ye⟩:=y;simp only[cf,hcell] at q4 hg ⊢;by_cases cy:ye=0
     ·subst cy;rw[if_neg (by simp)]
      have q5:=ot y1 hg.ok (by omega) (by omega) c.keep c.count (fun a ha=>by have:=hg.base a ha;omega) hg.same
      unfold oF;generalize cY y1 c.keep c.count=z at *;obtain⟨z1,ze⟩:=z;simp only[cf,hcell] at q5 ⊢;by_cases cz:ze=10
      ·subst cz;rw[if_pos rfl];refine cm ?_ lM.eq_1 Gu.eq_1 (zT hc) g1 q1 (eq_false ce) (eq_false c10) (zT cn) q4 q5;simp[zR]
      ·rw[if_neg cz];refine cm ?_ lM.eq_1 Gu.eq_1 (zT hc) g1 q1 (eq_false ce) (eq_false c10) (zT cn) q4 q5 (eq_false cz);simp[zR]
     ·rw[if_pos cy];refine cm ?_ lM.eq_1 Gu.eq_1 (zT hc) g1 q1 (eq_false ce) (eq_false c10) (zT cn) q4 (eq_false cy);simp[zR]
    ·rw[if_neg cn] at hZ;rw[hZ];have q5:=ot s hg.ok (by omega) (by omega) c.keep c.count (fun a ha=>by have:=hg.base a ha;omega) hg.same
     unfold oF;generalize cY s c.keep c.count=z at *;obtain⟨z1,ze⟩:=z;simp only[cf,hcell] at q5 ⊢;by_cases cz:ze=10
     ·subst cz;rw[if_pos rfl];refine cm ?_ lM.eq_1 Gu.eq_1 (zT hc) g1 q1 (eq_false ce) (eq_false c10) (zF cn) q5;simp[zR]
     ·rw[if_neg cz];refine cm ?_ lM.eq_1 Gu.eq_1 (zT hc) g1 q1 (eq_false ce) (eq_false c10) (zF cn) q5 (eq_false cz);simp[zR]
 ·have hc:¬ (i:Int)<(l.length:Int):=by omega
  rw[zC (by omega)] at hZ
  simp only[jj] at hZ;clear hR;unfold xm at hZ;simp only at hZ;rw[if_neg (by decide)] at hZ
  by_cases cn:f.sto.next<s.next
  ·rw[if_pos cn] at hZ;have q4:=qT s hg.ok (by omega) (by omega)
   replace hg:=hg.sync
   rw[hZ];generalize aW s=y at *;obtain⟨y1,ye⟩:=y;simp only[cf,hcell] at q4 hg ⊢;by_cases cy:ye=0
   ·subst cy;rw[if_neg (by simp)]
    have q5:=ot y1 hg.ok (by omega) (by omega) c.keep c.count (fun a ha=>by have:=hg.base a ha;omega) hg.same
    unfold oF;generalize cY y1 c.keep c.count=z at *;obtain⟨z1,ze⟩:=z;simp only[cf,hcell] at q5 ⊢;by_cases cz:ze=10
    ·subst cz;rw[if_pos rfl];refine cm ?_ lM.eq_1 Gu.eq_1 (zF hc) (zT cn) q4 q5;simp[zR]
    ·rw[if_neg cz];refine cm ?_ lM.eq_1 Gu.eq_1 (zF hc) (zT cn) q4 q5 (eq_false cz);simp[zR]
   ·rw[if_pos cy];refine cm ?_ lM.eq_1 Gu.eq_1 (zF hc) (zT cn) q4 (eq_false cy);simp[zR]
  ·rw[if_neg cn] at hZ;rw[hZ];have q5:=ot s hg.ok (by omega) (by omega) c.keep c.count (fun a ha=>by have:=hg.base a ha;omega) hg.same
   unfold oF;generalize cY s c.keep c.count=z at *;obtain⟨z1,ze⟩:=z;simp only[cf,hcell] at q5 ⊢;by_cases cz:ze=10
   ·subst cz;rw[if_pos rfl];refine cm ?_ lM.eq_1 Gu.eq_1 (zF hc) (zF cn) q5;simp[zR]
   ·rw[if_neg cz];refine cm ?_ lM.eq_1 Gu.eq_1 (zF hc) (zF cn) q5 (eq_false cz);simp[zR]
def fq (f:Fw) (c:Cnf) (m:Mg) (x:L):List L:=[zI f.id_,zI f.ic,.d (.l (f.sto.disk.files.map Fil.enc)),zI f.sto.disk.cap,zB f.sto.disk.armed,zI f.sto.disk.left,zB f.sto.disk.down,zI f.sto.ver,.d (.l (f.sto.segs.map Seg.enc)),zI f.sto.next,zI f.sto.sure,zI f.sto.size,zW f.sto.sum,zI f.sq,zI f.wa,x,zI f.bo.at_,zI f.bo.sz,zW f.bo.su,zS f.bo.got,zI f.hi,zI c.nodes,zI c.seg,zI c.keep,zI c.count,zI c.batch,zI c.most,zI c.window,zI c.held,zI c.chunk,zI c.pending,zI c.links,zI c.beat,zI c.retry,zI c.lease,zI c.top,zI m.kd,zI m.fr,zI m.tt,zI m.ic,zI m.pe,zI m.sq,zI m.at_,zI m.wi,zI m.hi,zI m.wa,zI m.ix,zI m.sz,zW m.su,zS m.da,.d (.l (m.rs.map Rec.enc))]
def wV (l:List Rec):Int:=(l.getLastD ⟨0,0,[]⟩).at_
def fe (h:List (List Rec)) (at_:Int):List (List Rec):=h.filter fun l=>decide (at_<=wV l)
theorem J1 {l:List Rec} (h:1<=l.length):∃ r:Rec,(l.map Rec.enc)[l.length-1]?=some [.i .i64 (wV l),.i .i64 r.ti,.s r.da]:=by
 have hl:l.length-1<l.length:=by omega
 refine⟨l[l.length-1],?_⟩;rw[zG,zE hl];unfold wV;rw[List.getLastD_eq_getLast?,List.getLast?_eq_getElem?,zE hl];rfl
theorem CE (h:List (List Rec)) (a:Int) (i:Nat) (hi:i<h.length):fe (h.take (i+1)) a=if a<=wV h[i] then fe (h.take i) a++[h[i]] else fe (h.take i) a:=by
 unfold fe;rw[zO hi,List.filter_append];by_cases c:a<=wV h[i] <;> simp[c]
theorem HE (h:List (List Rec)) (a:Int):(fe h a).length<=h.length:=List.length_filter_le _ _
theorem DN {k u:Nat} (f:Fw) (c:Cnf) (m:Mg) (h:okS k u f.sto) (hk:k<=700000) (hu:u<=1000000) (hh:okH f.hd) (b:Boo) (hb : -9223372036854775808<=b.at_∧b.at_<9223372036854775808) (hx:b.got.length<=20000) :
  ((bw f.sto b.at_ b.got).2≠0->call 65 [.one (.p 0 0),.agg b.l] [.cells (aR f c m)]=some (vi (bw f.sto b.at_ b.got).2,[.cells (aR { f with sto:=(bw f.sto b.at_ b.got).1 } c m)])) ∧
  ((bw f.sto b.at_ b.got).2=0->call 65 [.one (.p 0 0),.agg b.l] [.cells (aR f c m)]=some (vi 0,[.cells (fq { f with sto:=(bw f.sto b.at_ b.got).1 } c m (.sl 2 1 0 (fe f.hd b.at_).length)),.cells b.l,.arr 1 ((fe f.hd b.at_).map hE) 0])):=by
 have hcell:∀ s:Sto,s.l=[.d (.l (s.disk.files.map Fil.enc)),zI s.disk.cap,zB s.disk.armed,zI s.disk.left,zB s.disk.down,zI s.ver,.d (.l (s.segs.map Seg.enc)),zI s.next,zI s.sure,zI s.size,zW s.sum]:=fun _=>rfl
 have q:=Gt f.sto h hk hu b.at_ hb b.got hx;have hlen:=hh.len;generalize bw f.sto b.at_ b.got=w at *;obtain⟨s,e⟩:=w;obtain⟨ba,bz,bu,bg⟩:=b;simp only[cf,hcell,Boo.l,aR,fq] at q ⊢;constructor
 ·intro he;apply ae VM rfl;refine cm ?_ S7.eq_1 q (eq_false he);simp[zR]
 ·intro he;subst he;apply ae VM rfl;refine cm ?_ S7.eq_1 q @zM;refine aq (m:=1) (σ:=Nat) (fun i=>f.hd.length-i) (fun i=>i<=f.hd.length) (fun i=>[V.one (.p 0 0),V.one (.p 1 0),V.one (.sl 2 1 0 (fe (f.hd.take i) ba).length),vl (f.hd.map hE),vi f.hd.length,vi i])
   (fun i=>[.cells [zI f.id_,zI f.ic,.d (.l (s.disk.files.map Fil.enc)),zI s.disk.cap,zB s.disk.armed,zI s.disk.left,zB s.disk.down,zI s.ver,.d (.l (s.segs.map Seg.enc)),zI s.next,zI s.sure,zI s.size,zW s.sum,zI f.sq,zI f.wa,.d (.l (f.hd.map hE)),zI f.bo.at_,zI f.bo.sz,zW f.bo.su,zS f.bo.got,zI f.hi,zI c.nodes,zI c.seg,zI c.keep,zI c.count,zI c.batch,zI c.most,zI c.window,zI c.held,zI c.chunk,zI c.pending,zI c.links,zI c.beat,zI c.retry,zI c.lease,zI c.top,zI m.kd,zI m.fr,zI m.tt,zI m.ic,zI m.pe,zI m.sq,zI m.at_,zI m.wi,zI m.hi,zI m.wa,zI m.ix,zI m.sz,zW m.su,zS m.da,.d (.l (m.rs.map Rec.enc))],.cells [zI ba,zI bz,zW bu,zS bg],.arr 1 ((fe (f.hd.take i) ba).map hE) 0]) (fun _=>((vi 0,[.cells [zI f.id_,zI f.ic,.d (.l (s.disk.files.map Fil.enc)),zI s.disk.cap,zB s.disk.armed,zI s.disk.left,zB s.disk.down,zI s.ver,.d (.l (s.segs.map Seg.enc)),zI s.next,zI s.sure,zI s.size,zW s.sum,zI f.sq,zI f.wa,.sl 2 1 0 (fe f.hd ba).length,zI f.bo.at_,zI f.bo.sz,zW f.bo.su,zS f.bo.got,zI f.hi,zI c.nodes,zI c.seg,zI c.keep,zI c.count,zI c.batch,zI c.most,zI c.window,zI c.held,zI c.chunk,zI c.pending,zI c.links,zI c.beat,zI c.retry,zI c.lease,zI c.top,zI m.kd,zI m.fr,zI m.tt,zI m.ic,zI m.pe,zI m.sq,zI m.at_,zI m.wi,zI m.hi,zI m.wa,zI m.ix,zI m.sz,zW m.su,zS m.da,.d (.l (m.rs.map Rec.enc))],.cells [zI ba,zI bz,zW bu,zS bg],.arr 1 ((fe f.hd ba).map hE) 0]):V × Hp)) ?_ 0 (zP _) _ _ ?_
  rotate_left
  ·exact bA
  intro i h1 R hR;have hrl:=HE (f.hd.take i) ba;have htl:(f.hd.take i).length<=i:=by rw[zQ];omega
  have hml:((fe (f.hd.take i) ba).map hE).length=(fe (f.hd.take i) ba).length:=by simp
  by_cases ci:i<f.hd.length
  ·have hc:(i:Int)<(f.hd.length:Int):=by omega
   have g1:(f.hd.map hE)[i]?=some [.l (f.hd[i].map Rec.enc)]:=by rw[zG,zE ci];rfl
   have hob:=hh.all _ (zN ci);have hbl:=hob.len;obtain⟨r,g2⟩:=J1 hbl.1;have hn1:((f.hd[i].length:Nat):Int)-1=((f.hd[i].length-1:Nat):Int):=by omega
   have hn2:(((f.hd[i].length:Nat):Int)-1).toNat=f.hd[i].length-1:=by omega
   have hn3:f.hd[i].length-1<f.hd[i].length:=by omega
   have hlm:(f.hd[i].map Rec.enc).length=f.hd[i].length:=by simp
   have hK:=hR (i+1) (by omega) (by omega)
   rw[CE f.hd ba i ci] at hK;clear hR;have hhe:hE f.hd[i]=[.l (f.hd[i].map Rec.enc)]:=rfl;generalize f.hd[i]=l at *;generalize fe (f.hd.take i) ba=G at *;by_cases cl:ba<=wV l
   ·rw[if_pos cl] at hK;simp only[zA,List.length_cons,List.length_nil,Nat.zero_add,List.map_append,List.map_cons,List.map_nil,hhe] at hK;refine cm ?_ El.eq_1 (zT hc) g1 hlm hn1 hn2 hn3 g2 (zT cl) hml;exact hK _ _ bA
   ·rw[if_neg cl] at hK;refine cm ?_ El.eq_1 (zT hc) g1 hlm hn1 hn2 hn3 g2 (zF cl);exact hK _ _ bA
  ·have hc:¬ (i:Int)<(f.hd.length:Int):=by omega
   have hil:i=f.hd.length:=by omega
   rw[hil,List.take_length] at *;clear hR;refine cm ?_ El.eq_1 S7.eq_1 (zF hc);simp[zR]
def bF:Boo:=⟨0,0,0,[]⟩
def uV (f:Fw) (m:Mg):Txt:=if m.at_=f.bo.at_∧m.sz=f.bo.sz∧m.su=f.bo.su then f.bo.got else[]
def fH (f:Fw) (m:Mg):Boo:=⟨m.at_,m.sz,m.su,if m.ix=((uV f m).length:Nat) then uV f m++m.da else uV f m⟩
def nu (f:Fw) (b:Boo):Fw × Int:=if(bw f.sto b.at_ b.got).2≠0 then({ f with sto:=(bw f.sto b.at_ b.got).1,bo:=bF },(bw f.sto b.at_ b.got).2) else({ f with sto:=(bw f.sto b.at_ b.got).1,bo:=bF,hd:=fe f.hd b.at_ },0)
def mH (f:Fw) (m:Mg):Fw × Int :=
 if m.at_<=f.sto.next∨m.at_<f.bo.at_ then(f,0) else
 if((fH f m).got.length:Nat)<(fH f m).sz then({ f with bo:=fH f m },0) else
 if(fH f m).sz<((fH f m).got.length:Nat)∨cE (fH f m).got≠(fH f m).su then({ f with bo:=bF },0) else nu f (fH f m)
def HS (f:Fw) (c:Cnf) (m:Mg) (H:Hp):Prop:=H=[.cells (aR f c m)]∨∃ B1 B2 B3 B4,H=[.cells (fq f c m (.sl 5 1 0 f.hd.length)),B1,B2,B3,B4,.arr 1 (f.hd.map hE) 0]
theorem BQ {k u:Nat} (f:Fw) (c:Cnf) (m:Mg) (h:okS k u f.sto) (hk:k<=700000) (hu:u<=1000000) (hh:okH f.hd) (hm : -9223372036854775808<=m.at_∧m.at_<9223372036854775808) (hx:f.bo.got.length+m.da.length<=20000) :
  ∃ z,call 38 [.one (.p 0 0)] [.cells (aR f c m)]=some z∧(z.1=vi (mH f m).2∧HS (mH f m).1 c m z.2):=by
 have hgl:(uV f m).length<=f.bo.got.length:=by unfold uV;split <;> simp
 have hbl:(fH f m).got.length<=20000:=by
  unfold fH;simp only;split
  ·rw[zA];omega
  ·omega
 unfold mH;by_cases c1:m.at_<=f.sto.next∨m.at_<f.bo.at_
 ·rw[if_pos c1];apply DV VF rfl;simp only[aR];rcases c1 with c1|c1
  ·refine cm ?_ tU.eq_1 (zT c1);exact⟨_,rfl,by simp[zR,HS,aR]⟩
  ·by_cases c0:m.at_<=f.sto.next
   ·refine cm ?_ tU.eq_1 (zT c0);exact⟨_,rfl,by simp[zR,HS,aR]⟩
   ·refine cm ?_ tU.eq_1 (zF c0) (zT c1);exact⟨_,rfl,by simp[zR,HS,aR]⟩
 ·rw[if_neg c1];simp only[not_or] at c1;obtain⟨c1,c2⟩:=c1;obtain⟨b,hb⟩:∃ b,b=fH f m:=⟨_,rfl⟩;have hb1:b.at_=m.at_:=by rw[hb];rfl
  have hb2:b.sz=m.sz:=by rw[hb];rfl
  have hb3:b.su=m.su:=by rw[hb];rfl
  have hb4:b.got=if m.ix=((uV f m).length:Nat) then uV f m++m.da else uV f m:=by rw[hb];rfl
  rw[<- hb] at hbl ⊢;have q5:=rS b.got (by omega)
  have hi:=DN { f with bo:=bF } c m h hk hu hh b (by rw[hb1];exact hm) (by omega)
  have heq:kT [0,0,0,2] [zI m.at_,zI m.sz,zW m.su,zS f.bo.got] [zI f.bo.at_,zI f.bo.sz,zW f.bo.su,zS f.bo.got]=some (decide (m.at_=f.bo.at_∧m.sz=f.bo.sz∧m.su=f.bo.su)):=by
   simp only[kT,uO,if_true];congr 1
   rw[Bool.eq_iff_iff];simp
  unfold uV at hb4 hgl;apply DV VF rfl;simp only[aR];by_cases c3:m.at_=f.bo.at_∧m.sz=f.bo.sz∧m.su=f.bo.su
  ·rw[zT c3] at heq;rw[if_pos c3] at hb4 hgl;by_cases c4:m.ix=((f.bo.got.length:Nat):Int)
   ·rw[if_pos c4] at hb4;have hbe:b=⟨m.at_,m.sz,m.su,f.bo.got++m.da⟩:=by
     obtain⟨b1,b2,b3,b4⟩:=b;simp only at hb1 hb2 hb3 hb4;rw[hb1,hb2,hb3,hb4];try rfl
    clear hb hb1 hb2 hb3 hb4;subst hbe;simp only at q5 hi hbl ⊢;by_cases c5:(((f.bo.got++m.da:Txt).length:Nat):Int)<m.sz
    ·rw[if_pos c5];try simp only[List.length_nil,Int.ofNat_zero,zA] at c5
     refine cm ?_ tU.eq_1 (zF c1) (zF c2) heq (eq_true c4) (zT c5);exact⟨_,rfl,by simp[zR,HS,aR,bF]⟩
    ·rw[if_neg c5];by_cases c6:m.sz<(((f.bo.got++m.da:Txt).length:Nat):Int)
     ·rw[if_pos (.inl c6)];try simp only[List.length_nil,Int.ofNat_zero,zA] at c5 c6
      refine cm ?_ tU.eq_1 (zF c1) (zF c2) heq (eq_true c4) (zF c5) (zT c6);exact⟨_,rfl,by simp[zR,HS,aR,bF]⟩
     ·by_cases c7:cE (f.bo.got++m.da)=m.su
      ·rw[if_neg (by simp only[not_or,ne_eq,Decidable.not_not];exact⟨c6,c7⟩)]
       try simp only[List.length_nil,Int.ofNat_zero,zA] at c5 c6
       unfold nu;simp only;by_cases c8:(bw f.sto m.at_ (f.bo.got++m.da)).2=0
       ·have q6:=hi.2 c8;rw[if_neg (by simp[c8])]
        clear hi;generalize bw f.sto m.at_ (f.bo.got++m.da)=w at *;obtain⟨s,e⟩:=w;simp only[aR,fq,bF,Boo.l] at q6 c8 ⊢;have f6:∀ B1 B2 B3:Box,ak call 65 [.one (.p 0 0),.agg [zI m.at_,zI m.sz,zW m.su,zS (f.bo.got++m.da)]] [.cells (aR { f with bo:=bF } c m),B1,B2,B3]=some (vi 0,[.cells (fq { f with sto:=s,bo:=bF } c m (.sl 5 1 0 (fe f.hd m.at_).length)),B1,B2,B3,.cells [zI m.at_,zI m.sz,zW m.su,zS (f.bo.got++m.da)],.arr 1 ((fe f.hd m.at_).map hE) 0]):=fun B1 B2 B3 =>
         aF (ids:=[0]) rfl rfl rfl q6 rfl
        simp only[aR,fq,bF] at f6;(simp(disch:=first|decide|omega|(intros;exact aP rfl rfl)|simp only[am]) only[fU,tU,zF c1,zF c2,heq,eq_true c4,zF c5,zF c6,↓cB,mR,fX,cL,q5,eq_true c7,f6,go_sem,seval,aO,gL,A.kind,A.xs,co,A.isN])
        refine⟨_,rfl,by simp[zR],.inr ?_⟩
        simp[zR,fq]
       ·have q6:=hi.1 c8;rw[if_pos c8];clear hi;generalize bw f.sto m.at_ (f.bo.got++m.da)=w at *;obtain⟨s,e⟩:=w;simp only[aR,bF,Boo.l] at q6 c8 ⊢;have f6:∀ B1 B2 B3:Box,ak call 65 [.one (.p 0 0),.agg [zI m.at_,zI m.sz,zW m.su,zS (f.bo.got++m.da)]] [.cells (aR { f with bo:=bF } c m),B1,B2,B3]=some (vi e,[.cells (aR { f with sto:=s,bo:=bF } c m),B1,B2,B3]):=fun B1 B2 B3 =>
         aF (ids:=[0]) rfl rfl rfl q6 rfl
        simp only[aR,fq,bF] at f6;(simp(disch:=first|decide|omega|(intros;exact aP rfl rfl)|simp only[am]) only[fU,tU,zF c1,zF c2,heq,eq_true c4,zF c5,zF c6,↓cB,mR,fX,cL,q5,eq_true c7,f6,go_sem,seval,aO,gL,A.kind,A.xs,co,A.isN])
        exact⟨_,rfl,by simp[zR,HS,aR,bF]⟩
      ·rw[if_pos (.inr c7)];try simp only[List.length_nil,Int.ofNat_zero,zA] at c5 c6
       (simp(disch:=first|decide|omega|(intros;exact aP rfl rfl)|simp only[am]) only[fU,tU,zF c1,zF c2,heq,eq_true c4,zF c5,zF c6,↓cB,mR,fX,cL,q5,eq_false c7,go_sem,seval,aO,gL,A.kind,A.xs,co,A.isN])
       exact⟨_,rfl,by simp[zR,HS,aR,bF]⟩
   ·rw[if_neg c4] at hb4;have hbe:b=⟨m.at_,m.sz,m.su,f.bo.got⟩:=by
     obtain⟨b1,b2,b3,b4⟩:=b;simp only at hb1 hb2 hb3 hb4;rw[hb1,hb2,hb3,hb4];try rfl
    clear hb hb1 hb2 hb3 hb4;subst hbe;simp only at q5 hi hbl ⊢;by_cases c5:(((f.bo.got:Txt).length:Nat):Int)<m.sz
    ·rw[if_pos c5];try simp only[List.length_nil,Int.ofNat_zero,zA] at c5
     refine cm ?_ tU.eq_1 (zF c1) (zF c2) heq (eq_false c4) (zT c5);exact⟨_,rfl,by simp[zR,HS,aR,bF]⟩
    ·rw[if_neg c5];by_cases c6:m.sz<(((f.bo.got:Txt).length:Nat):Int)
     ·rw[if_pos (.inl c6)];try simp only[List.length_nil,Int.ofNat_zero,zA] at c5 c6
      refine cm ?_ tU.eq_1 (zF c1) (zF c2) heq (eq_false c4) (zF c5) (zT c6);exact⟨_,rfl,by simp[zR,HS,aR,bF]⟩
     ·by_cases c7:cE f.bo.got=m.su
      ·rw[if_neg (by simp only[not_or,ne_eq,Decidable.not_not];exact⟨c6,c7⟩)]
       try simp only[List.length_nil,Int.ofNat_zero,zA] at c5 c6
       unfold nu;simp only;by_cases c8:(bw f.sto m.at_ f.bo.got).2=0
       ·have q6:=hi.2 c8;rw[if_neg (by simp[c8])]
        clear hi;generalize bw f.sto m.at_ f.bo.got=w at *;obtain⟨s,e⟩:=w;simp only[aR,fq,bF,Boo.l] at q6 c8 ⊢;have f6:∀ B1 B2 B3:Box,ak call 65 [.one (.p 0 0),.agg [zI m.at_,zI m.sz,zW m.su,zS f.bo.got]] [.cells (aR { f with bo:=bF } c m),B1,B2,B3]=some (vi 0,[.cells (fq { f with sto:=s,bo:=bF } c m (.sl 5 1 0 (fe f.hd m.at_).length)),B1,B2,B3,.cells [zI m.at_,zI m.sz,zW m.su,zS f.bo.got],.arr 1 ((fe f.hd m.at_).map hE) 0]):=fun B1 B2 B3 =>
         aF (ids:=[0]) rfl rfl rfl q6 rfl
        simp only[aR,fq,bF] at f6;(simp(disch:=first|decide|omega|(intros;exact aP rfl rfl)|simp only[am]) only[fU,tU,zF c1,zF c2,heq,eq_false c4,zF c5,zF c6,↓cB,mR,fX,cL,q5,eq_true c7,f6,go_sem,seval,aO,gL,A.kind,A.xs,co,A.isN])
        refine⟨_,rfl,by simp[zR],.inr ?_⟩
        simp[zR,fq]
       ·have q6:=hi.1 c8;rw[if_pos c8];clear hi;generalize bw f.sto m.at_ f.bo.got=w at *;obtain⟨s,e⟩:=w;simp only[aR,bF,Boo.l] at q6 c8 ⊢;have f6:∀ B1 B2 B3:Box,ak call 65 [.one (.p 0 0),.agg [zI m.at_,zI m.sz,zW m.su,zS f.bo.got]] [.cells (aR { f with bo:=bF } c m),B1,B2,B3]=some (vi e,[.cells (aR { f with sto:=s,bo:=bF } c m),B1,B2,B3]):=fun B1 B2 B3 =>
         aF (ids:=[0]) rfl rfl rfl q6 rfl
        simp only[aR,fq,bF] at f6;(simp(disch:=first|decide|omega|(intros;exact aP rfl rfl)|simp only[am]) only[fU,tU,zF c1,zF c2,heq,eq_false c4,zF c5,zF c6,↓cB,mR,fX,cL,q5,eq_true c7,f6,go_sem,seval,aO,gL,A.kind,A.xs,co,A.isN])
        exact⟨_,rfl,by simp[zR,HS,aR,bF]⟩
      ·rw[if_pos (.inr c7)];try simp only[List.length_nil,Int.ofNat_zero,zA] at c5 c6
       (simp(disch:=first|decide|omega|(intros;exact aP rfl rfl)|simp only[am]) only[fU,tU,zF c1,zF c2,heq,eq_false c4,zF c5,zF c6,↓cB,mR,fX,cL,q5,eq_false c7,go_sem,seval,aO,gL,A.kind,A.xs,co,A.isN])
       exact⟨_,rfl,by simp[zR,HS,aR,bF]⟩
  ·rw[zF c3] at heq;rw[if_neg c3] at hb4 hgl;simp only[List.length_nil,Int.ofNat_zero,List.nil_append] at hb4;by_cases c4:m.ix=0
   ·rw[if_pos c4] at hb4;have hbe:b=⟨m.at_,m.sz,m.su,m.da⟩:=by
     obtain⟨b1,b2,b3,b4⟩:=b;simp only at hb1 hb2 hb3 hb4;rw[hb1,hb2,hb3,hb4];try rfl
    clear hb hb1 hb2 hb3 hb4;subst hbe;simp only at q5 hi hbl ⊢;by_cases c5:(((m.da:Txt).length:Nat):Int)<m.sz
    ·rw[if_pos c5];try simp only[List.length_nil,Int.ofNat_zero,zA] at c5
     refine cm ?_ tU.eq_1 (zF c1) (zF c2) heq (eq_true c4) (zT c5);exact⟨_,rfl,by simp[zR,HS,aR,bF]⟩
    ·rw[if_neg c5];by_cases c6:m.sz<(((m.da:Txt).length:Nat):Int)
     ·rw[if_pos (.inl c6)];try simp only[List.length_nil,Int.ofNat_zero,zA] at c5 c6
      refine cm ?_ tU.eq_1 (zF c1) (zF c2) heq (eq_true c4) (zF c5) (zT c6);exact⟨_,rfl,by simp[zR,HS,aR,bF]⟩
     ·by_cases c7:cE m.da=m.su
      ·rw[if_neg (by simp only[not_or,ne_eq,Decidable.not_not];exact⟨c6,c7⟩)]
       try simp only[List.length_nil,Int.ofNat_zero,zA] at c5 c6
       unfold nu;simp only;by_cases c8:(bw f.sto m.at_ m.da).2=0
       ·have q6:=hi.2 c8;rw[if_neg (by simp[c8])]
        clear hi;generalize bw f.sto m.at_ m.da=w at *;obtain⟨s,e⟩:=w;simp only[aR,fq,bF,Boo.l] at q6 c8 ⊢;have f6:∀ B1 B2 B3:Box,ak call 65 [.one (.p 0 0),.agg [zI m.at_,zI m.sz,zW m.su,zS m.da]] [.cells (aR { f with bo:=bF } c m),B1,B2,B3]=some (vi 0,[.cells (fq { f with sto:=s,bo:=bF } c m (.sl 5 1 0 (fe f.hd m.at_).length)),B1,B2,B3,.cells [zI m.at_,zI m.sz,zW m.su,zS m.da],.arr 1 ((fe f.hd m.at_).map hE) 0]):=fun B1 B2 B3 =>
         aF (ids:=[0]) rfl rfl rfl q6 rfl
        simp only[aR,fq,bF] at f6;(simp(disch:=first|decide|omega|(intros;exact aP rfl rfl)|simp only[am]) only[fU,tU,zF c1,zF c2,heq,eq_true c4,zF c5,zF c6,↓cB,mR,fX,cL,q5,eq_true c7,f6,go_sem,seval,aO,gL,A.kind,A.xs,co,A.isN])
        refine⟨_,rfl,by simp[zR],.inr ?_⟩
        simp[zR,fq]
       ·have q6:=hi.1 c8;rw[if_pos c8];clear hi;generalize bw f.sto m.at_ m.da=w at *;obtain⟨s,e⟩:=w;simp only[aR,bF,Boo.l] at q6 c8 ⊢;have f6:∀ B1 B2 B3:Box,ak call 65 [.one (.p 0 0),.agg [zI m.at_,zI m.sz,zW m.su,zS m.da]] [.cells (aR { f with bo:=bF } c m),B1,B2,B3]=some (vi e,[.cells (aR { f with sto:=s,bo:=bF } c m),B1,B2,B3]):=fun B1 B2 B3 =>
         aF (ids:=[0]) rfl rfl rfl q6 rfl
        simp only[aR,fq,bF] at f6;(simp(disch:=first|decide|omega|(intros;exact aP rfl rfl)|simp only[am]) only[fU,tU,zF c1,zF c2,heq,eq_true c4,zF c5,zF c6,↓cB,mR,fX,cL,q5,eq_true c7,f6,go_sem,seval,aO,gL,A.kind,A.xs,co,A.isN])
        exact⟨_,rfl,by simp[zR,HS,aR,bF]⟩
      ·rw[if_pos (.inr c7)];try simp only[List.length_nil,Int.ofNat_zero,zA] at c5 c6
       (simp(disch:=first|decide|omega|(intros;exact aP rfl rfl)|simp only[am]) only[fU,tU,zF c1,zF c2,heq,eq_true c4,zF c5,zF c6,↓cB,mR,fX,cL,q5,eq_false c7,go_sem,seval,aO,gL,A.kind,A.xs,co,A.isN])
       exact⟨_,rfl,by simp[zR,HS,aR,bF]⟩
   ·rw[if_neg c4] at hb4;have hbe:b=⟨m.at_,m.sz,m.su,[]⟩:=by
     obtain⟨b1,b2,b3,b4⟩:=b;simp only at hb1 hb2 hb3 hb4;rw[hb1,hb2,hb3,hb4];try rfl
    clear hb hb1 hb2 hb3 hb4;subst hbe;simp only at q5 hi hbl ⊢;by_cases c5:((([]:Txt).length:Nat):Int)<m.sz
    ·rw[if_pos c5];try simp only[List.length_nil,Int.ofNat_zero,zA] at c5
     refine cm ?_ tU.eq_1 (zF c1) (zF c2) heq (eq_false c4) (zT c5);exact⟨_,rfl,by simp[zR,HS,aR,bF]⟩
    ·rw[if_neg c5];by_cases c6:m.sz<((([]:Txt).length:Nat):Int)
     ·rw[if_pos (.inl c6)];try simp only[List.length_nil,Int.ofNat_zero,zA] at c5 c6
      refine cm ?_ tU.eq_1 (zF c1) (zF c2) heq (eq_false c4) (zF c5) (zT c6);exact⟨_,rfl,by simp[zR,HS,aR,bF]⟩
     ·by_cases c7:cE []=m.su
      ·rw[if_neg (by simp only[not_or,ne_eq,Decidable.not_not];exact⟨c6,c7⟩)]
       try simp only[List.length_nil,Int.ofNat_zero,zA] at c5 c6
       unfold nu;simp only;by_cases c8:(bw f.sto m.at_ []).2=0
       ·have q6:=hi.2 c8;rw[if_neg (by simp[c8])]
        clear hi;generalize bw f.sto m.at_ []=w at *;obtain⟨s,e⟩:=w;simp only[aR,fq,bF,Boo.l] at q6 c8 ⊢;have f6:∀ B1 B2 B3:Box,ak call 65 [.one (.p 0 0),.agg [zI m.at_,zI m.sz,zW m.su,.d (.s [])]] [.cells (aR { f with bo:=bF } c m),B1,B2,B3]=some (vi 0,[.cells (fq { f with sto:=s,bo:=bF } c m (.sl 5 1 0 (fe f.hd m.at_).length)),B1,B2,B3,.cells [zI m.at_,zI m.sz,zW m.su,.d (.s [])],.arr 1 ((fe f.hd m.at_).map hE) 0]):=fun B1 B2 B3 =>
         aF (ids:=[0]) rfl rfl rfl q6 rfl
        simp only[aR,fq,bF] at f6;(simp(disch:=first|decide|omega|(intros;exact aP rfl rfl)|simp only[am]) only[fU,tU,zF c1,zF c2,heq,eq_false c4,zF c5,zF c6,↓cB,mR,fX,cL,q5,eq_true c7,f6,go_sem,seval,aO,gL,A.kind,A.xs,co,A.isN])
        refine⟨_,rfl,by simp[zR],.inr ?_⟩
        simp[zR,fq]
       ·have q6:=hi.1 c8;rw[if_pos c8];clear hi;generalize bw f.sto m.at_ []=w at *;obtain⟨s,e⟩:=w;simp only[aR,bF,Boo.l] at q6 c8 ⊢;have f6:∀ B1 B2 B3:Box,ak call 65 [.one (.p 0 0),.agg [zI m.at_,zI m.sz,zW m.su,.d (.s [])]] [.cells (aR { f with bo:=bF } c m),B1,B2,B3]=some (vi e,[.cells (aR { f with sto:=s,bo:=bF } c m),B1,B2,B3]):=fun B1 B2 B3 =>
         aF (ids:=[0]) rfl rfl rfl q6 rfl
        simp only[aR,fq,bF] at f6;(simp(disch:=first|decide|omega|(intros;exact aP rfl rfl)|simp only[am]) only[fU,tU,zF c1,zF c2,heq,eq_false c4,zF c5,zF c6,↓cB,mR,fX,cL,q5,eq_true c7,f6,go_sem,seval,aO,gL,A.kind,A.xs,co,A.isN])
        exact⟨_,rfl,by simp[zR,HS,aR,bF]⟩
      ·rw[if_pos (.inr c7)];try simp only[List.length_nil,Int.ofNat_zero,zA] at c5 c6
       (simp(disch:=first|decide|omega|(intros;exact aP rfl rfl)|simp only[am]) only[fU,tU,zF c1,zF c2,heq,eq_false c4,zF c5,zF c6,↓cB,mR,fX,cL,q5,eq_false c7,go_sem,seval,aO,gL,A.kind,A.xs,co,A.isN])
       exact⟨_,rfl,by simp[zR,HS,aR,bF]⟩
def Ob (f:Fw) (m:Mg):Int:=if f.hi<m.hi then m.hi else f.hi
def py (f:Fw) (m:Mg):Int:=if(m.rs.length:Nat)<f.sto.next-m.at_ then(m.rs.length:Nat) else f.sto.next-m.at_
def eU (f:Fw) (m:Mg):List Rec:=m.rs.drop (py f m).toNat
def gK (f:Fw) (m:Mg):List Rec × List (List Rec):=gQ f.hd (f.sto.next+((eU f m).length:Nat)) []
def o5 (f:Fw) (c:Cnf) (m:Mg):Fw × Int :=
 if m.rs.length=0 then({ f with hi:=Ob f m },0) else
 if f.sto.next<m.at_ then({ f with hi:=Ob f m,hd:=GP f.hd m.rs f.sto.next c.held (c.window-c.batch) },0) else
  ({ f with hi:=Ob f m,hd:=(gK f m).2,sto:=(dW f.sto c (eU f m++(gK f m).1)).1 },(dW f.sto c (eU f m++(gK f m).1)).2)
theorem IM {F:Nat} {rows:List (List D)} {e:Int} {f1 f2:Fw} {c:Cnf} {m:Mg} (h:call F [.one (.p 0 0),vl rows] [.cells (aR f1 c m)]=some (vi e,[.cells (aR f2 c m)])):ak call F [.one (.p 0 0),vl rows] [.cells (aR f1 c m)]=some (vi e,[.cells (aR f2 c m)]) :=
 aF (ids:=[0]) rfl rfl rfl h rfl
theorem BK {k u n:Nat} (f:Fw) (c:Cnf) (m:Mg) (hg:Go1 k u n f.sto) (hh:okH f.hd) (hb:m.rs.length=0∨okB m.rs) (hm:0<=m.at_∧m.at_<=1099511627776) (hnx:f.sto.next<=1000000) (hseg:1<=c.seg)
  (hw:(0<=c.window∧c.window<=1000000)∧(0<=c.batch∧c.batch<=1000000)) (hl:(eU f m++(gK f m).1).length<=100) (hr:∀ r∈eU f m++(gK f m).1,r.ok) (hk:k<=100000) (hu:u<=700000) (hn:n<=900) :
  call 37 [.one (.p 0 0)] [.cells (aR f c m)]=some (vi (o5 f c m).2,[.cells (aR (o5 f c m).1 c m)]):=by
 have hn0:=hg.ok.next;unfold o5;by_cases c1:m.rs.length=0
 ·rw[if_pos c1];apply ae TV rfl;simp only[aR,Ob];refine cm ?_ Tg.eq_1 c1 @zM;simp[zR]
 ·rw[if_neg c1];have hob:=hb.resolve_left c1;have hol:=hob.len;have c1':¬ ((m.rs.length:Nat):Int)=0:=by omega
  by_cases c2:f.sto.next<m.at_
  ·rw[if_pos c2];have q:=J0 f.hd hh m.rs hb f.sto.next c.held (c.window-c.batch);apply ae TV rfl;simp only[aR,Ob];generalize GP f.hd m.rs f.sto.next c.held (c.window-c.batch)=G at *;refine cm ?_ Tg.eq_1 (eq_false c1') (zT c2) q @zM;simp[zR]
  ·rw[if_neg c2];have hsk:0<=py f m∧py f m<=(m.rs.length:Nat):=by unfold py;split <;> omega
   have hdr:List.drop (py f m).toNat (m.rs.map Rec.enc)=(eU f m).map Rec.enc:=by unfold eU;rw[List.map_drop]
   have hnl:(eU f m).length<=100:=by unfold eU;rw[zH];omega
   have hsf:(if(m.rs.length:Nat)<f.sto.next-m.at_ then((m.rs.length:Nat):Int) else f.sto.next-m.at_)=py f m:=rfl
   have q2:=Fs f.hd hh (f.sto.next+((eU f m).length:Nat)) (by omega)
   have hokr:aV 3 (m.rs.map Rec.enc)=true:=aZ Rec.len _;have hmt:gQ f.hd (f.sto.next+((eU f m).length:Nat)) []=gK f m:=rfl;rw[hmt] at q2;have q3:=IM (yN { f with hi:=Ob f m,hd:=(gK f m).2 } c m hg (eU f m++(gK f m).1) (by omega) hr hseg (by omega) (by omega) (by omega))
   have hht:(if f.hi<m.hi then m.hi else f.hi)=Ob f m:=rfl
   rw[zA] at hl;generalize Ob f m=hiv at *;generalize py f m=sk at *;generalize eU f m=nw at *;generalize gK f m=mo at *;obtain⟨mo1,mo2⟩:=mo;simp only at q2 q3 hl ⊢;generalize dW f.sto c (nw++mo1)=z at *;obtain⟨s,e⟩:=z;simp only[aR,List.map_append] at q3 ⊢;have hok1:aV 3 (nw.map Rec.enc)=true:=aZ Rec.len _;have hok2:aV 3 (mo1.map Rec.enc)=true:=aZ Rec.len _;have htk:List.take nw.length (nw.map Rec.enc)=nw.map Rec.enc:=zL (by simp)
   have hln:(nw.map Rec.enc).length=nw.length:=by simp
   apply ae TV rfl;refine cm ?_ Tg.eq_1 hht (eq_false c1') (zF c2) hsf hokr hdr hln q2 hok1 hok2 (And.intro htk (And.intro q3 @zM));simp[zR]
def eu (f:Fw) (c:Cnf):Fw:={ f with wa:=c.beat }
def dA (f:Fw) (c:Cnf) (m:Mg):Fw × Int:=if m.kd=2 then o5 (eu f c) c m else mH (eu f c) m
def vq (f g:Fw):Bool:=decide (g.sto.next≠f.sto.next) || decide ((f.bo.got.length:Int)<(g.bo.got.length:Nat))
def u7 (f:Fw) (r:Fw × Int):V:=.tup [(true,r.1.l),(false,[zB (vq f r.1)]),(false,[zI r.2])]
theorem Dg {k u n:Nat} (f:Fw) (c:Cnf) (m:Mg) (hR:call 36 [.agg m.l] []=some (vb true,[])) (h1:m.kd=2) (h2:m.tt=f.id_) (h3:m.pe=f.ic) (hg:Go1 k u n f.sto) (hh:okH f.hd) (hb:m.rs.length=0∨okB m.rs) (hm:0<=m.at_∧m.at_<=1099511627776) (hnx:f.sto.next<=1000000) (hseg:1<=c.seg)
  (hw:(0<=c.window∧c.window<=1000000)∧(0<=c.batch∧c.batch<=1000000)) (hl:(eU f m++(gK f m).1).length<=100) (hr:∀ r∈eU f m++(gK f m).1,r.ok) (hk:k<=100000) (hu:u<=700000) (hn:n<=900) :
  call 12 [.agg f.l,.agg c.l,.agg m.l] []=some (u7 f (dA f c m),[]):=by
 have q:=BK (eu f c) c m hg hh hb hm hnx hseg hw hl hr hk hu hn;unfold dA;rw[if_pos h1];obtain⟨Z,hZ⟩:∃ Z,Z=o5 (eu f c) c m:=⟨_,rfl⟩;rw[<- hZ] at q ⊢;obtain⟨g,e⟩:=Z;clear hZ;unfold u7 vq;have q2:∀ B0 B1 B2 B3:Box,ak call 37 [.one (.p 4 0)] [B0,B1,B2,B3,.cells (aR (eu f c) c m)]=some (vi e,[B0,B1,B2,B3,.cells (aR g c m)]):=fun B0 B1 B2 B3 =>
  aF (ids:=[4]) rfl rfl rfl q rfl
 simp only[aR,eu] at q2;simp only[Fw.l,Cnf.l,Mg.l,h1,h2,h3] at hR q2 ⊢;clear q;apply ae Uc rfl;by_cases c1:g.sto.next=f.sto.next
 ·by_cases c2:((f.bo.got.length:Nat):Int)<(g.bo.got.length:Nat)
  ·refine cm ?_ Lh.eq_1 hR q2 (eq_true c1) (zT c2);try simp[zR,c1,c2]
  ·refine cm ?_ Lh.eq_1 hR q2 (eq_true c1) (zF c2);try simp[zR,c1,c2]
 ·refine cm ?_ Lh.eq_1 hR q2 (eq_false c1);try simp[zR,c1]
theorem Db {k u:Nat} (f:Fw) (c:Cnf) (m:Mg) (hR:call 36 [.agg m.l] []=some (vb true,[])) (h1:m.kd=3) (h2:m.tt=f.id_) (h3:m.pe=f.ic) (h:okS k u f.sto) (hk:k<=700000) (hu:u<=1000000) (hh:okH f.hd) (hm : -9223372036854775808<=m.at_∧m.at_<9223372036854775808) (hx:f.bo.got.length+m.da.length<=20000) (hlen:(mH (eu f c) m).1.hd.length<=1000) :
  call 12 [.agg f.l,.agg c.l,.agg m.l] []=some (u7 f (dA f c m),[]):=by
 obtain⟨⟨v,H⟩,q,hv,hs⟩:=BQ (eu f c) c m h hk hu hh hm hx;unfold dA;rw[if_neg (by omega)]
 obtain⟨Z,hZ⟩:∃ Z,Z=mH (eu f c) m:=⟨_,rfl⟩;rw[<- hZ] at hv hs hlen ⊢;obtain⟨g,e⟩:=Z;clear hZ;simp only at hv hs hlen;subst hv;unfold u7 vq;rcases hs with rfl|⟨B1,B2,B3,B4,rfl⟩
 ·have q2:∀ B0 B1 B2 B3:Box,ak call 38 [.one (.p 4 0)] [B0,B1,B2,B3,.cells (aR (eu f c) c m)]=some (vi e,[B0,B1,B2,B3,.cells (aR g c m)]):=fun B0 B1 B2 B3 =>
   aF (ids:=[4]) rfl rfl rfl q rfl
  simp only[aR,eu] at q2;simp only[Fw.l,Cnf.l,Mg.l,h1,h2,h3] at hR q2 ⊢;clear q;apply ae Uc rfl;by_cases c1:g.sto.next=f.sto.next
  ·by_cases c2:((f.bo.got.length:Nat):Int)<(g.bo.got.length:Nat)
   ·refine cm ?_ Lh.eq_1 hR q2 (eq_true c1) (zT c2);try simp[zR,c1,c2]
   ·refine cm ?_ Lh.eq_1 hR q2 (eq_true c1) (zF c2);try simp[zR,c1,c2]
  ·refine cm ?_ Lh.eq_1 hR q2 (eq_false c1);try simp[zR,c1]
 ·obtain⟨q2,hq2⟩:∃ C:List Box,C=[B1,B2,B3,B4].map (Box.ren fun j=>if j<1 then[4][j]? else some (5+(j-1))):=⟨_,rfl⟩
  obtain⟨C1,C2,C3,C4,rfl⟩:∃ C1 C2 C3 C4,q2=[C1,C2,C3,C4]:=⟨_,_,_,_,hq2⟩;simp only[List.map_cons,List.map_nil,List.cons.injEq,and_true] at hq2;obtain⟨e1,e2,e3,e4⟩:=hq2;have q2:∀ B0 B1 B2 B3:Box,ak call 38 [.one (.p 4 0)] [B0,B1,B2,B3,.cells (aR (eu f c) c m)]=some (vi e,[B0,B1,B2,B3,.cells [zI g.id_,zI g.ic,.d (.l (g.sto.disk.files.map Fil.enc)),zI g.sto.disk.cap,zB g.sto.disk.armed,zI g.sto.disk.left,zB g.sto.disk.down,zI g.sto.ver,.d (.l (g.sto.segs.map Seg.enc)),zI g.sto.next,zI g.sto.sure,zI g.sto.size,zW g.sto.sum,zI g.sq,zI g.wa,.sl 9 1 0 g.hd.length,zI g.bo.at_,zI g.bo.sz,zW g.bo.su,zS g.bo.got,zI g.hi,zI c.nodes,zI c.seg,zI c.keep,zI c.count,zI c.batch,zI c.most,zI c.window,zI c.held,zI c.chunk,zI c.pending,zI c.links,zI c.beat,zI c.retry,zI c.lease,zI c.top,zI m.kd,zI m.fr,zI m.tt,zI m.ic,zI m.pe,zI m.sq,zI m.at_,zI m.wi,zI m.hi,zI m.wa,zI m.ix,zI m.sz,zW m.su,zS m.da,.d (.l (m.rs.map Rec.enc))],C1,C2,C3,C4,.arr 1 (g.hd.map hE) 0]):=fun B0 B1 B2 B3=>by
   rw[e1,e2,e3,e4];exact aF (ids:=[4]) rfl rfl rfl q rfl
  simp only[aR,eu] at q2;simp only[Fw.l,Cnf.l,Mg.l,h1,h2,h3] at hR q2 ⊢;clear q;have htk:List.take g.hd.length (g.hd.map hE)=g.hd.map hE:=zL (by simp)
  have hhl:(g.hd.map hE).length=g.hd.length:=by simp
  clear e1 e2 e3 e4;apply ae Uc rfl;by_cases c1:g.sto.next=f.sto.next
  ·by_cases c2:((f.bo.got.length:Nat):Int)<(g.bo.got.length:Nat)
   ·(simp(disch:=first|decide|omega|(intros;exact aP rfl rfl)|simp only[am]) only[fU,Lh,hR,q2,eq_true c1,zT c2,htk,hhl,↓oi,xD,go_sem,seval,aO,gL,A.kind,A.xs,co,A.isN])
    try simp[zR,c1,c2]
   ·(simp(disch:=first|decide|omega|(intros;exact aP rfl rfl)|simp only[am]) only[fU,Lh,hR,q2,eq_true c1,zF c2,htk,hhl,↓oi,xD,go_sem,seval,aO,gL,A.kind,A.xs,co,A.isN])
    try simp[zR,c1,c2]
  ·(simp(disch:=first|decide|omega|(intros;exact aP rfl rfl)|simp only[am]) only[fU,Lh,hR,q2,eq_false c1,htk,hhl,↓oi,xD,go_sem,seval,aO,gL,A.kind,A.xs,co,A.isN])
   try simp[zR,c1]
def wG (k0 k1 k2 k3 k4 k5 k6 k7 k8 k9 k10 k11:Nat):Cnf:={ nodes:=1+(k0 % 4:Nat),seg:=20+(k1 % 80:Nat),keep:=(k2:Nat),count:=1+(k3 % 40:Nat),batch:=100+(k4 % 100:Nat),most:=1+(k5 % 4:Nat),window:=100+((k4 % 100:Nat):Int)+(k5:Nat),held:=(k6 % 4:Nat),chunk:=16+(k7 % 40:Nat),pending:=1+(k8 % 8:Nat),links:=1+(k9 % 6:Nat),beat:=1+(k10 % 3:Nat),retry:=1+((k10 % 3:Nat):Int)+(k10 % 5:Nat),lease:=1+(k11 % 20:Nat),top:=if 240<k8 then(if k3 % 30=0 then 1 else(k3 % 30:Nat)) else 1099511627776 }
def Oe (k0 k1 k2 k3 k4 k5 k6 k7 k8 k9 k10 k11:Nat):List L:=[zU (k0:Nat),zU (k1:Nat),zU (k2:Nat),zU (k3:Nat),zU (k4:Nat),zU (k5:Nat),zU (k6:Nat),zU (k7:Nat),zU (k8:Nat),zU (k9:Nat),zU (k10:Nat),zU (k11:Nat)]
theorem gF (a b:Nat) (hb:0<b):((a:Nat):Int).tmod ((b:Nat):Int)=((a % b:Nat):Int):=by rw[Int.tmod_eq_emod_of_nonneg (by omega)];omega
theorem wD (k0 k1 k2 k3 k4 k5 k6 k7 k8 k9 k10 k11:Nat) (h0:k0<256) (h1:k1<256) (h2:k2<256) (h3:k3<256) (h4:k4<256) (h5:k5<256) (h6:k6<256) (h7:k7<256) (h8:k8<256) (h9:k9<256) (h10:k10<256) (h11:k11<256):call 8 [.agg (Oe k0 k1 k2 k3 k4 k5 k6 k7 k8 k9 k10 k11)] []=some (.agg (wG k0 k1 k2 k3 k4 k5 k6 k7 k8 k9 k10 k11).l,[]):=by
 have r0:((k0:Nat):Int).tmod 4=((k0 % 4:Nat):Int):=gF k0 4 (by decide)
 have r1:((k1:Nat):Int).tmod 80=((k1 % 80:Nat):Int):=gF k1 80 (by decide)
 have r2:((k3:Nat):Int).tmod 40=((k3 % 40:Nat):Int):=gF k3 40 (by decide)
 have r3:((k4:Nat):Int).tmod 100=((k4 % 100:Nat):Int):=gF k4 100 (by decide)
 have r4:((k5:Nat):Int).tmod 4=((k5 % 4:Nat):Int):=gF k5 4 (by decide)
 have r5:((k6:Nat):Int).tmod 4=((k6 % 4:Nat):Int):=gF k6 4 (by decide)
 have r6:((k7:Nat):Int).tmod 40=((k7 % 40:Nat):Int):=gF k7 40 (by decide)
 have r7:((k8:Nat):Int).tmod 8=((k8 % 8:Nat):Int):=gF k8 8 (by decide)
 have r8:((k9:Nat):Int).tmod 6=((k9 % 6:Nat):Int):=gF k9 6 (by decide)
 have r9:((k10:Nat):Int).tmod 3=((k10 % 3:Nat):Int):=gF k10 3 (by decide)
 have r10:((k10:Nat):Int).tmod 5=((k10 % 5:Nat):Int):=gF k10 5 (by decide)
 have r11:((k11:Nat):Int).tmod 20=((k11 % 20:Nat):Int):=gF k11 20 (by decide)
 have r12:((k3:Nat):Int).tmod 30=((k3 % 30:Nat):Int):=gF k3 30 (by decide)
 have e:(wG k0 k1 k2 k3 k4 k5 k6 k7 k8 k9 k10 k11).l=[zI (1+(k0 % 4:Nat)),zI (20+(k1 % 80:Nat)),zI (k2:Nat),zI (1+(k3 % 40:Nat)),zI (100+(k4 % 100:Nat)),zI (1+(k5 % 4:Nat)),zI (100+((k4 % 100:Nat):Int)+(k5:Nat)),zI (k6 % 4:Nat),zI (16+(k7 % 40:Nat)),zI (1+(k8 % 8:Nat)),zI (1+(k9 % 6:Nat)),zI (1+(k10 % 3:Nat)),zI (1+((k10 % 3:Nat):Int)+(k10 % 5:Nat)),zI (1+(k11 % 20:Nat)),zI (if 240<k8 then(if k3 % 30=0 then 1 else(k3 % 30:Nat)) else 1099511627776)]:=rfl
 rw[e];unfold Oe;have l0:k0 % 4<4:=Nat.mod_lt _ (by decide)
 have l1:k1 % 80<80:=Nat.mod_lt _ (by decide)
 have l2:k3 % 40<40:=Nat.mod_lt _ (by decide)
 have l3:k4 % 100<100:=Nat.mod_lt _ (by decide)
 have l4:k5 % 4<4:=Nat.mod_lt _ (by decide)
 have l5:k6 % 4<4:=Nat.mod_lt _ (by decide)
 have l6:k7 % 40<40:=Nat.mod_lt _ (by decide)
 have l7:k8 % 8<8:=Nat.mod_lt _ (by decide)
 have l8:k9 % 6<6:=Nat.mod_lt _ (by decide)
 have l9:k10 % 3<3:=Nat.mod_lt _ (by decide)
 have l10:k10 % 5<5:=Nat.mod_lt _ (by decide)
 have l11:k11 % 20<20:=Nat.mod_lt _ (by decide)
 have l12:k3 % 30<30:=Nat.mod_lt _ (by decide)
 apply ae s8 rfl;by_cases c:240<k8
 ·have c':(240:Int)<(k8:Nat):=by omega
  rw[if_pos c];by_cases c2:k3 % 30=0
  ·rw[if_pos c2];have c3:¬ (1:Int)<((k3 % 30:Nat):Int):=by omega
   have c4:(if((k3 % 30:Nat):Int)<1 then(1:Int) else((k3 % 30:Nat):Int))=1:=by rw[if_pos (by omega)]
   refine bh ?_ a8.eq_1 r0 r1 r2 r3 r4 r5 r6 r7 r8 r9 (And.intro r10 (And.intro r11 (And.intro r12 (And.intro (zT c') c4))));try simp[trim]
  ·rw[if_neg c2];have c4:(if((k3 % 30:Nat):Int)<1 then(1:Int) else((k3 % 30:Nat):Int))=((k3 % 30:Nat):Int):=by rw[if_neg (by omega)]
   refine bh ?_ a8.eq_1 r0 r1 r2 r3 r4 r5 r6 r7 r8 r9 (And.intro r10 (And.intro r11 (And.intro r12 (And.intro (zT c') c4))));try simp[trim]
 ·have c':¬ (240:Int)<(k8:Nat):=by omega
  rw[if_neg c];refine bh ?_ a8.eq_1 r0 r1 r2 r3 r4 r5 r6 r7 r8 r9 (And.intro r10 (And.intro r11 (And.intro r12 (zF c'))));try simp[trim]
def bL (data:List Txt):List Rec:=data.mapIdx fun i d=>⟨(i:Nat),(i:Nat),d⟩
def eX (n:Txt):List D:=[.s n]
theorem lL (data:List Txt):(bL data).length=data.length:=by simp[bL]
theorem Cw (data:List Txt) (i:Nat) (h:i<data.length):(bL data).take (i+1)=(bL data).take i++[⟨(i:Nat),(i:Nat),data[i]⟩]:=by
 rw[zO (by rw[lL];exact h)]
 simp[bL]
theorem o9 (data:List Txt) (hl:data.length<=1000):call 9 [vl (data.map eX)] []=some (vl ((bL data).map Rec.enc),[]):=by
 apply ae s9 rfl;refine bh ?_ a9.eq_1;refine aq (m:=0) (σ:=Nat) (fun i=>data.length-i) (fun i=>i<=data.length) (fun i=>[vl (data.map eX),V.one (.sl 0 3 0 ((bL data).take i).length),vi i]) (fun i=>[.arr 3 (((bL data).take i).map Rec.enc) 0])
  (fun _=>(vl ((bL data).map Rec.enc),[])) ?_ 0 (zP _) _ _ bA
 intro i h1 R hR;by_cases c:i<data.length
 ·have hc:(i:Int)<(data.length:Int):=by omega
  have g1:(data.map eX)[i]?=some [.s data[i]]:=by rw[zG,zE c];rfl
  have hK:=hR (i+1) (by omega) (by omega)
  have hml:(((bL data).take i).map Rec.enc).length=((bL data).take i).length:=by simp
  have hil:((bL data).take i).length<=1000:=by rw[zQ,lL];omega
  rw[Cw data i c] at hK;simp only[zA,List.length_cons,List.length_nil,Nat.zero_add,List.map_append,List.map_cons,List.map_nil,Rec.enc] at hK;clear hR;generalize (bL data).take i=Q at *;generalize data[i]=d at *;refine bh ?_ PB.eq_1 (zT hc) g1 hml @zM;exact hK _ _ bA
 ·have hc:¬ (i:Int)<(data.length:Int):=by omega
  have hil:i=data.length:=by omega
  have ht:(bL data).take i=bL data:=zL (by rw[lL];omega)
  rw[ht];have htk:List.take (bL data).length ((bL data).map Rec.enc)=(bL data).map Rec.enc:=zL (by simp)
  have hml:((bL data).map Rec.enc).length=(bL data).length:=by simp
  refine bh ?_ PB.eq_1 a9.eq_1 (zF hc) htk hml @zM;try simp[trim]
def pu (id_ ic:Int) (s:Sto) (c:Cnf):Fw:=⟨id_,ic,s,0,c.beat,[],bF,0⟩
theorem vz (id_ ic:Int) (s:Sto) (c:Cnf):call 11 [vi id_,vi ic,.agg s.l,.agg c.l] []=some (.agg (pu id_ ic s c).l,[]):=by
 have hcell:s.l=[.d (.l (s.disk.files.map Fil.enc)),zI s.disk.cap,zB s.disk.armed,zI s.disk.left,zB s.disk.down,zI s.ver,.d (.l (s.segs.map Seg.enc)),zI s.next,zI s.sure,zI s.size,zW s.sum]:=rfl;rw[hcell];simp only[pu,Fw.l,Cnf.l,bF,List.map_nil];apply ae WI rfl;refine bh ?_ Vy.eq_1;try simp[trim]
def eN (n:Int):List D:=[.i .i64 n]
theorem jJ (most:Int) (l:List Int) (hl:l.length<=1000) (h:∀ x∈l,0<=x∧x<=most):call 59 [vi most,vl (l.map eN)] []=some (vb true,[]):=by
 apply ae WO rfl;refine bh ?_ Ud.eq_1 @zM;refine aq (m:=0) (σ:=Nat) (fun i=>l.length-i) (fun i=>i<=l.length) (fun i=>[vi most,vl (l.map eN),vi l.length,vi i]) (fun _=>[]) (fun _=>(vb true,[])) ?_ 0 (zP _) _ _ bA
 intro i h1 R hR;by_cases c:i<l.length
 ·have hc:(i:Int)<(l.length:Int):=by omega
  have g1:(l.map eN)[i]?=some [.i .i64 l[i]]:=by rw[zG,zE c];rfl
  have hx:=h _ (zN c);have hK:=hR (i+1) (by omega) (by omega)
  clear hR;generalize l[i]=x at *;have x1:¬ x<0:=by omega
  have x2:¬ most<x:=by omega
  refine bh ?_ J3.eq_1 (zT hc) g1 (zF x1) (zF x2);exact hK _ _ bA
 ·have hc:¬ (i:Int)<(l.length:Int):=by omega
  refine bh ?_ J3.eq_1 Ud.eq_1 (zF hc);try simp[trim]
theorem JY (a:Int) (ha:0<=a∧a<=1099511627776) (l:List Rec) (hl:l.length<=64) (h:∀ i (hi:i<l.length),whyF l[i]=0∧l[i].at_=a+(i:Nat)) (ho:∀ r∈l,r.ok):call 60 [vl (l.map Rec.enc),vi a] []=some (vb true,[]):=by
 apply ae W0 rfl;refine bh ?_ Vg.eq_1 @zM;refine aq (m:=0) (σ:=Nat) (fun i=>l.length-i) (fun i=>i<=l.length) (fun i=>[vl (l.map Rec.enc),vi a,vl (l.map Rec.enc),vi l.length,vi i]) (fun _=>[]) (fun _=>(vb true,[])) ?_ 0 (zP _) _ _ bA
 intro i h1 R hR;by_cases c:i<l.length
 ·have hc:(i:Int)<(l.length:Int):=by omega
  have g1:(l.map Rec.enc)[i]?=some l[i].enc:=by rw[zG,zE c];rfl
  obtain⟨hx,hy⟩:=h i c;have q:=uE l[i] (ho _ (zN c));rw[zT hx] at q;have hK:=hR (i+1) (by omega) (by omega)
  clear hR;generalize l[i]=r at *;obtain⟨ra,rb,rd⟩:=r;simp only[Rec.enc,List.map_cons,List.map_nil] at g1 q hy;subst hy;refine bh ?_ IZ.eq_1 (zT hc) g1 q @JN @Nd;exact hK _ _ bA
 ·have hc:¬ (i:Int)<(l.length:Int):=by omega
  have h64:((l.length:Nat):Int)<=64:=by omega
  refine bh ?_ IZ.eq_1 Vg.eq_1 (zF hc) (zT h64) @zM;try simp[trim]
def cP (a:Int) (l:List Rec):Mg:=⟨2,0,1,1,3,0,a,0,0,0,0,0,0,[],l⟩
def gT (a k sz su:Int) (da:Txt):Mg:=⟨3,0,1,1,3,0,a,0,0,0,k,sz,su,da,[]⟩
theorem BJ (a:Int) (ha:0<=a∧a<=1099511627776) (l:List Rec) (hl:l.length<=64) (h:∀ i (hi:i<l.length),whyF l[i]=0∧l[i].at_=a+(i:Nat)) (ho:∀ r∈l,r.ok):call 36 [.agg (cP a l).l] []=some (vb true,[]):=by
 have q1:=jJ 7 [0,1] (by decide) (by simp)
 have q2:=jJ 1099511627776 [1,3,0,a,0,0] (by simp) (by simp;omega)
 have q3:=jJ 65536 [0,0,0] (by simp) (by simp)
 have q4:=JY a ha l hl h ho;simp only[eN,List.map_cons,List.map_nil] at q1 q2 q3;simp only[cP,Mg.l];apply ae VT rfl;(simp(disch:=first|decide|omega|(intros;exact aP rfl rfl)|simp only[am]) only[fU,U2,List.replicate,List.set,q1,q2,q3,q4,go_sem,seval,aO])
 try simp[trim]
theorem AN (a:Int) (ha:0<=a∧a<=1099511627776) (k sz su:Int) (da:Txt) (hk:0<=k∧k<=sz) (hs:0<sz∧sz<=65536) (hd:da.length<=4096):call 36 [.agg (gT a k sz su da).l] []=some (vb true,[]):=by
 have q1:=jJ 7 [0,1] (by decide) (by simp)
 have q2:=jJ 1099511627776 [1,3,0,a,0,0] (by simp) (by simp;omega)
 have q3:=jJ 65536 [0,k,sz] (by simp) (by simp;omega)
 simp only[eN,List.map_cons,List.map_nil] at q1 q2 q3;have h1:(0:Int)<sz:=hs.1;have h2:k<=sz:=hk.2;have h3:((da.length:Nat):Int)<=4096:=by omega
 simp only[gT,Mg.l,List.map_nil];apply ae VT rfl;(simp(disch:=first|decide|omega|(intros;exact aP rfl rfl)|simp only[am]) only[fU,U2,List.replicate,List.set,q1,q2,q3,zT h1,zT h2,zT h3,go_sem,seval,aO])
 try simp[trim]
def Qb (d:Txt):Ac:=⟨0,0,0,d⟩
def WG:List Ac:=[Qb [97,49],Qb [97,50],Qb [98,51],Qb [99,52],Qb [99],Qb [100,53],Qb [101]]
def exP:Sto:=(QL 30 WG).1
def exT:Sto × Int:=cY exP 0 100
theorem uy (q:List Pr) (hs:gZ q) (ho:okP q) (R:List Rec) (hR:R.length<=1000000) (hr:∀ r∈R,r.da.length<=64):call 21 [vl (q.map Pr.enc),vl (R.map Rec.enc)] []=some (vl ((df q R).map Pr.enc),[]):=by
 apply ae Wl rfl;obtain⟨Z,hZ⟩:∃ Z:V,Z=vl ((df q R).map Pr.enc):=⟨_,rfl⟩;rw[<- hZ];refine bh ?_ Uj.eq_1;refine aq (m:=0) (σ:=Nat × List Pr) (fun t=>R.length-t.1) (fun t=>t.1<=R.length∧(gZ t.2∧okP t.2)∧Z=vl ((df t.2 (R.drop t.1)).map Pr.enc)) (fun t=>[vl (t.2.map Pr.enc),vl (R.map Rec.enc),vi t.1]) (fun _=>[])
  (fun _=>(Z,[])) ?_ (0,q) ⟨zP _,⟨hs,ho⟩,hZ⟩ _ _ bA
 rintro⟨i,w⟩ ⟨h1,h2,h3⟩ K hK;simp only at h1 h2 h3 ⊢;by_cases c:i<R.length
 ·have hc:(i:Int)<(R.length:Int):=by omega
  rw[zD c] at h3;have g1:(R.map Rec.enc)[i]?=some R[i].enc:=by rw[zG,zE c];rfl
  have hd:=hr _ (zN c);have hwl:=qP h2.1 h2.2;have g2:=step_ref w (by omega) R[i].da (by omega)
  have hK':=hK (i+1,cT w R[i].da) (by simp only[];omega) ⟨by simp only[];omega,⟨step_srt h2.1 _,step_ok h2.2 hd⟩,h3⟩
  generalize R[i]=r at *;generalize cT w r.da=w2 at *;obtain⟨ra,rt,rd⟩:=r;simp only[Rec.enc] at g1 g2;refine bh ?_ KC.eq_1 (zT hc) g1 g2;exact hK' _ _ bA
 ·have hc:¬ (i:Int)<(R.length:Int):=by omega
  rw[zC (by omega)] at h3
  rw[h3];refine bh ?_ KC.eq_1 Uj.eq_1 (zF hc);try simp[trim,df]
def zr (d:Txt):Rec:=⟨0,0,d⟩
def zb (kd a i n:Nat) (m:Mg):List L:=[zU (kd:Nat),zU (a:Nat),zU (i:Nat),zU (n:Nat),zI m.kd,zI m.fr,zI m.tt,zI m.ic,zI m.pe,zI m.sq,zI m.at_,zI m.wi,zI m.hi,zI m.wa,zI m.ix,zI m.sz,zW m.su,zS m.da,.d (.l (m.rs.map Rec.enc))]
def staA (all:List Rec) (k:Nat):List Pr:=df [] (all.take k)
def eL (all:List Rec) (k:Nat):Txt:=aX (staA all k)
def zq (len lo n:Nat):Nat:=if lo+n<len then lo+n else len
def jf (all:List Rec) (kd a i n:Nat):Mg :=
 if kd % 6=0 then cP ((a % (all.length+1):Nat):Int) ((all.take (zq all.length (a % (all.length+1)) (n % 6))).drop (a % (all.length+1))) else
  gT ((a % (all.length+1):Nat):Int) ((i % ((eL all (a % (all.length+1))).length+1):Nat):Int) ((eL all (a % (all.length+1))).length:Nat) (cE (eL all (a % (all.length+1))))
   (((eL all (a % (all.length+1))).take (zq (eL all (a % (all.length+1))).length (i % ((eL all (a % (all.length+1))).length+1)) n)).drop (i % ((eL all (a % (all.length+1))).length+1)))
theorem E1:∀ l:List Pr,okP l->(l.flatMap jc).length<=74*l.length
 | [],_=>by simp
 | p::l,h=>by
  have h1:=E1 l fun x hx=>h x (by simp[hx])
  have h2:=(h p (by simp)).2
  have h3:(ah p.val.length).length<=9:=eC (n:=p.val.length) (by omega)
  rw[List.flatMap_cons,zA,List.length_cons];simp only[jc,List.length_cons,zA];omega
theorem wQ {l:List Pr} (h:okP l) (hl:l.length<=256):(aX l).length<=9+74*l.length:=by
 have h1:=E1 l h;have h3:(ah l.length).length<=9:=eC (n:=l.length) (by omega)
 unfold aX;rw[zA];omega
theorem NW (len lo n:Nat):(if((lo:Nat):Int)+((n:Nat):Int)<((len:Nat):Int) then((lo:Nat):Int)+((n:Nat):Int) else((len:Nat):Int))=((zq len lo n:Nat):Int):=by
 unfold zq;by_cases c:lo+n<len
 ·rw[if_pos c,if_pos (by omega)];omega
 ·rw[if_neg c,if_neg (by omega)]
theorem yh (len lo n:Nat) (h:lo<=len):lo<=zq len lo n∧zq len lo n<=len:=by unfold zq;split <;> omega
theorem gP (all:List Rec) (ho:∀ r∈all,r.da.length<=64) (hl:all.length<=1000) (kd a i n:Nat) (hk:kd<256) (ha:a<256) (hi:i<256) (hn:n<256) (m:Mg) :
  call 13 [vl (all.map Rec.enc),.agg (zb kd a i n m)] []=some (.agg (jf all kd a i n).l,[]):=by
 unfold jf zb;have hat:a % (all.length+1)<=all.length:=by have:=Nat.mod_lt a (show 0<all.length+1 by omega);omega
 have r1:((a:Nat):Int).tmod ((all.length:Nat)+1:Int)=((a % (all.length+1):Nat):Int):=by
  have:=gF a (all.length+1) (by omega)
  rw[<- this];congr 1
 have r2:((kd:Nat):Int).tmod 6=((kd % 6:Nat):Int):=gF kd 6 (by decide)
 have r3:((n:Nat):Int).tmod 6=((n % 6:Nat):Int):=gF n 6 (by decide)
 have hn6:n % 6<6:=Nat.mod_lt _ (by decide)
 have hk6:kd % 6<6:=Nat.mod_lt _ (by decide)
 have z1:¬ ((all.length:Nat):Int)+1=0:=by omega
 generalize a % (all.length+1)=at0 at *;have hokr:aV 3 (all.map Rec.enc)=true:=aZ Rec.len _;apply ae WZ rfl;by_cases c:kd % 6=0
 ·rw[if_pos c];have c':((kd % 6:Nat):Int)=0:=by omega
  obtain⟨j1,j2⟩:=yh all.length at0 (n % 6) hat;have e1:=NW all.length at0 (n % 6);have hd:List.drop at0 (List.take (zq all.length at0 (n % 6)) (all.map Rec.enc))=((all.take (zq all.length at0 (n % 6))).drop at0).map Rec.enc:=by rw[List.map_drop,List.map_take]
  generalize zq all.length at0 (n % 6)=j at *;simp only[cP,Mg.l];rw[<- hd];refine bh ?_ Tu.eq_1 r1 z1 r2 (eq_true c') r3 e1 hokr @zM;try simp[trim]
 ·rw[if_neg c];have c':¬ ((kd % 6:Nat):Int)=0:=by omega
  have hsrt:gZ ([]:List Pr):=List.Pairwise.nil;have hokp:okP ([]:List Pr):=fun p hp=>by cases hp
  have ht:List.take at0 (all.map Rec.enc)=(all.take at0).map Rec.enc:=by rw[List.map_take]
  have q1:=uy [] hsrt hokp (all.take at0) (by simp;omega) (fun r hr=>ho r (zZ hr))
  have hf:=nz (all.take at0) [] hsrt hokp (fun r hr=>ho r (zZ hr))
  have hsl:=qP hf.1 hf.2.1;have hst:df [] (all.take at0)=staA all at0:=rfl;rw[hst] at q1 hf hsl;have hsb:(aX (staA all at0)).length<=20000:=by have:=wQ hf.2.1 hsl;omega
  have q2:=GZ (staA all at0) (by omega) (by omega) (fun p hp=>(hf.2.1 p hp).1)
  have hsn:aX (staA all at0)=eL all at0:=rfl;rw[hsn] at q2 hsb;have q3:=pf (eL all at0) (by omega)
  have hsu:(((cr 0#32 (eL all at0)).toNat:Nat):Int)=cE (eL all at0):=rfl;rw[hsu] at q3;generalize eL all at0=s at *;generalize staA all at0=q at *;have hkk:i % (s.length+1)<=s.length:=by have:=Nat.mod_lt i (show 0<s.length+1 by omega);omega
  have r4:((i:Nat):Int).tmod ((s.length:Nat)+1:Int)=((i % (s.length+1):Nat):Int):=by
   have:=gF i (s.length+1) (by omega)
   rw[<- this];congr 1
  have z2:¬ ((s.length:Nat):Int)+1=0:=by omega
  generalize i % (s.length+1)=k at *;obtain⟨j1,j2⟩:=yh s.length k n hkk;have e1:=NW s.length k n;generalize zq s.length k n=j at *;simp only[gT,Mg.l,List.map_nil] at q1 ⊢;refine bh ?_ Tu.eq_1 r1 z1 r2 (eq_false c') hokr ht q1 q2 q3 r4 (And.intro z2 (And.intro e1 @zM));try simp[trim]
structure Ak where
 kd:Nat
 a:Nat
 i:Nat
 n:Nat
 m:Mg
def Ak.enc (x:Ak):List D:=[.i .u8 (x.kd:Nat),.i .u8 (x.a:Nat),.i .u8 (x.i:Nat),.i .u8 (x.n:Nat),.i .i64 x.m.kd,.i .i64 x.m.fr,.i .i64 x.m.tt,.i .i64 x.m.ic,.i .i64 x.m.pe,.i .i64 x.m.sq,.i .i64 x.m.at_,.i .i64 x.m.wi,.i .i64 x.m.hi,.i .i64 x.m.wa,.i .i64 x.m.ix,.i .i64 x.m.sz,.i .u32 x.m.su,.s x.m.da,.l (x.m.rs.map Rec.enc)]
structure Ak.ok (x:Ak):Prop where
 kd:x.kd<256
 a:x.a<256
 i:x.i<256
 n:x.n<256
 rl:x.m.rs.length<=9223372036854775807
 rs:∀ r∈x.m.rs,r.ok
def Kw (data:List Txt) (l:List Ak) (b:Bool):Prop:=b=true->data.length<=30∧l.length<=60∧∀ d∈data,d.length<=64
theorem uz (data:List Txt) (hd:data.length<=9223372036854775807) (hds:∀ d∈data,d.length<=9223372036854775807) (l:List Ak) (hl:l.length<=9223372036854775807) (ho:∀ x∈l,x.ok) :
  ∃ b,call 6 [vl (data.map eX),vl (l.map Ak.enc)] []=some (vb b,[])∧Kw data l b:=by
 suffices h:∃ z:V × Hp,call 6 [vl (data.map eX),vl (l.map Ak.enc)] []=some z∧∃ b,z=(vb b,[])∧Kw data l b by
  obtain⟨z,h1,b,rfl,h2⟩:=h;exact⟨b,h1,h2⟩
 have no:Kw data l false:=fun h=>by cases h
 apply DV s6 rfl;by_cases c1:30<data.length
 ·have c1':(30:Int)<(data.length:Int):=by omega
  refine bh ?_ a6.eq_1 (zT c1') @zM;exact⟨_,rfl,false,by simp[trim],no⟩
 ·have c1':¬ (30:Int)<(data.length:Int):=by omega
  by_cases c2:60<l.length
  ·have c2':(60:Int)<(l.length:Int):=by omega
   refine bh ?_ a6.eq_1 (zF c1') (zT c2') @zM;exact⟨_,rfl,false,by simp[trim],no⟩
  ·have c2':¬ (60:Int)<(l.length:Int):=by omega
   have q1:=o9 data (by omega)
   have q2:=Ax (bL data) 30 (by rw[lL];omega) (fun r hr=>by
    unfold bL at hr;rw[List.mem_mapIdx] at hr;obtain⟨i,hi,rfl⟩:=hr;refine⟨⟨?_,?_⟩,⟨?_,?_⟩,hds _ (zN hi)⟩ <;> simp only[] <;> omega)
   generalize FK (bL data) 30=b0 at *;cases b0 with
   | false =>
    refine bh ?_ a6.eq_1 (zF c1') (zF c2') q1 q2 @zM;exact⟨_,rfl,false,by simp[trim],no⟩
   | true =>
    refine bh ?_ a6.eq_1 (zF c1') (zF c2') q1 q2 @zM;refine EG (m:=0) (σ:=Nat) (fun i=>data.length-i) (fun i=>i<=data.length∧∀ d∈data.take i,d.length<=64) (fun i=>[vl (data.map eX),vl (l.map Ak.enc),vi i]) (fun _=>[]) (fun z=>∃ b,z=(vb b,[])∧Kw data l b) ?_ 0 ⟨zP _,by simp⟩ _ _ ?_
    rotate_left
    ·exact bA
    rintro i ⟨h1,h2⟩ R hR;by_cases c:i<data.length
    ·have hc:(i:Int)<(data.length:Int):=by omega
     have g1:(data.map eX)[i]?=some [.s data[i]]:=by rw[zG,zE c];rfl
     by_cases c3:64<data[i].length
     ·have c3':(64:Int)<(data[i].length:Int):=by omega
      refine bh ?_ LG.eq_1 (zT hc) g1 (zT c3') @zM;exact⟨_,rfl,false,by simp[trim],no⟩
     ·have c3':¬ (64:Int)<(data[i].length:Int):=by omega
      have hK:=hR (i+1) (by omega) ⟨by omega,fun d hd=>by
       rw[zO c] at hd;rcases zX.1 hd with hd|hd
       ·exact h2 d hd
       ·rw[zV.1 hd];omega⟩
      clear hR;refine bh ?_ LG.eq_1 (zT hc) g1 (zF c3') @zM;exact hK _ _ bA
    ·have hc:¬ (i:Int)<(data.length:Int):=by omega
     rw[zL (by omega)] at h2
     clear hR;refine bh ?_ LG.eq_1 a6.eq_1 (zF hc) @zM;refine EG (m:=0) (σ:=Nat) (fun i=>l.length-i) (fun i=>i<=l.length) (fun i=>[vl (l.map Ak.enc),vi i]) (fun _=>[]) (fun z=>∃ b,z=(vb b,[])∧Kw data l b) ?_ 0 (zP _) _ _ ?_
     rotate_left
     ·exact bA
     intro j h3 R hR;by_cases c4:j<l.length
     ·have hc4:(j:Int)<(l.length:Int):=by omega
      have g1:(l.map Ak.enc)[j]?=some l[j].enc:=by rw[zG,zE c4];rfl
      have hx:=ho _ (zN c4);have q3:=Ax l[j].m.rs 70 hx.rl hx.rs;have hK:=hR (j+1) (by omega) (by omega)
      clear hR;generalize l[j]=x at *;generalize FK x.m.rs 70=b1 at *;simp only[Ak.enc] at g1;cases b1 with
      | false =>
       refine bh ?_ GH.eq_1 (zT hc4) g1 q3 @zM;exact⟨_,rfl,false,by simp[trim],no⟩
      | true =>
       by_cases c5:(5000:Int)<(x.m.da.length:Int)
       ·refine bh ?_ GH.eq_1 (zT hc4) g1 q3 (zT c5) @zM;exact⟨_,rfl,false,by simp[trim],no⟩
       ·refine bh ?_ GH.eq_1 (zT hc4) g1 q3 (zF c5) @zM;exact hK _ _ bA
     ·have hc4:¬ (j:Int)<(l.length:Int):=by omega
      refine bh ?_ GH.eq_1 a6.eq_1 (zF hc4) @zM;exact⟨_,rfl,true,by simp[trim],fun _=>⟨by omega,by omega,h2⟩⟩
structure Lg (all:List Rec):Prop where
 len:all.length<=30
 why:∀ r∈all,whyF r=0
 num:numB 0 all
structure Sg (p:Bool) (k u:Nat) (all:List Rec) (lo n:Nat) (s:Sto):Prop where
 ok:okS k u s
 idl:idl p s.disk
 wr:∃ (f:Nat) (S:Txt),f<=n∧WR (f:Int) S (staA all f) s ((all.take n).drop f)
 le:n<=all.length
 sure:(lo:Int)<=s.sure
variable {p:Bool} {k u lo n:Nat} {all:List Rec} {s:Sto}
theorem Sg.next (h:Sg p k u all lo n s):s.next=n:=by
 obtain⟨f,S,hf,hw⟩:=h.wr;have:=hw.next;have:=h.le;rw[zH,zQ] at *;omega
theorem Sg.len (h:Sg p k u all lo n s) (ha:Lg all):1<=s.segs.length∧s.segs.length<=31:=by
 obtain⟨f,S,hf,hw⟩:=h.wr;have h1:=hw.segs_le;have:=ha.len;rw[zH,zQ] at h1;omega
theorem Sg.up {k' u':Nat} (h:Sg p k u all lo n s) (hk:k<=k') (hu:u<=u'):Sg p k' u' all lo n s:=⟨h.ok.up hk hu,h.idl,h.wr,h.le,h.sure⟩
theorem Sg.few (h:Sg true k u all lo n s) (ha:Lg all) (hv:s.ver<=300000):Sg true 70 300000 all lo n s:=by
 obtain⟨f,S,hf,hw⟩:=h.wr;have:=ha.len;exact⟨hw.few h.ok (h.idl.2 rfl).2 (by rw[zH,zQ];omega) hv,h.idl,h.wr,h.le,h.sure⟩
theorem Sg.go (h:Sg p k u all lo n s) (ha:Lg all):Go1 k u 30 s:=by
 obtain⟨f,S,hf,hw⟩:=h.wr;have:=ha.len;exact⟨h.ok,f,S,_,_,hw,by rw[zH,zQ];omega⟩
theorem Sg.app (h:Sg p k u all lo n s) (ha:Lg all) (hu:u<1000000000000) {seg:Int} (hseg:1<=seg) (hn:n<all.length) :
  (eQ s seg all[n]).1.ver<=s.ver+1∧(((eQ s seg all[n]).2=0∧Sg p (k+2) (u+1000) all lo (n+1) (eQ s seg all[n]).1)∨((eQ s seg all[n]).2=10∧p=false∧Sg p (k+2) (u+1000) all lo n (eQ s seg all[n]).1)):=by
 have hi:=Rn h.idl (by have:=h.len ha;omega) seg all[n]
 have hok:=ET h.ok seg all[n];have hnx:=h.next;obtain⟨f,S,hf,hw⟩:=h.wr;have hlo:=h.sure;have hw2:=hw.app h.ok hseg hu all[n];have hat:=ha.num n hn;have hwy:=ha.why _ (zN hn);have hl:=ha.len;refine⟨hi.2,?_⟩;rcases hw2.2.2 with⟨e,_,_,_,_,h1⟩|⟨h1,⟨_,_,e⟩|⟨_,_,e⟩|e|⟨e,_⟩⟩
 ·refine .inl ⟨e,hok,hi.1.1,⟨f,S,by omega,?_⟩,hn,by have:=hw2.1;omega⟩
  have e2:(all.take (n+1)).drop f=(all.take n).drop f++[all[n]]:=by
   rw[zO hn,List.drop_append_of_le_length (by rw[zQ];omega)]
  rw[e2];exact h1
 ·exfalso;rcases e with e|e
  ·exact e hwy
  ·exact e (by rw[hat,hnx];omega)
 ·exfalso;omega
 ·exact absurd e hi.1.2.1
 ·refine .inr ⟨e,?_,hok,hi.1.1,⟨f,S,hf,h1⟩,h.le,by have:=hw2.1;omega⟩
  cases p with
  | false=>rfl
  | true=>exact absurd e (hi.1.2.2 rfl)
theorem Sg.apps (ha:Lg all) {seg:Int} (hseg:1<=seg):∀ (j:Nat) {k u n:Nat} {s:Sto},Sg p k u all lo n s->n+j<=all.length->u+1000*j<1000000000000 ->
  ∃ n',n<=n'∧n'<=n+j∧(jj seg ((all.drop n).take j) s).1.ver<=s.ver+j∧Sg p (k+2*j) (u+1000*j) all lo n' (jj seg ((all.drop n).take j) s).1∧(((jj seg ((all.drop n).take j) s).2=0∧n'=n+j)∨((jj seg ((all.drop n).take j) s).2=10∧p=false))
 | 0,k,u,n,s,h,_,_=>⟨n,Nat.le_refl _,by omega,by rw[List.take_zero];show s.ver<=_;omega,by rw[List.take_zero];exact h,by rw[List.take_zero];exact .inl ⟨rfl,rfl⟩⟩
 | j+1,k,u,n,s,h,hn,hu=>by
  have hn2:n<all.length:=by omega
  have e:(all.drop n).take (j+1)=all[n]::(all.drop (n+1)).take j:=by rw[zD hn2,List.take_succ_cons]
  rw[e];have h1:=h.app ha (by omega) hseg hn2
  unfold jj;rcases h1.2 with⟨e1,h2⟩|⟨e1,hp,h2⟩
  ·rw[if_neg (by simp[e1])]
   obtain⟨n',a1,a2,a3,a4,a5⟩:=Sg.apps ha hseg j h2 (by omega) (by omega)
   refine⟨n',by omega,by omega,by omega,a4.up (by omega) (by omega),?_⟩
   rcases a5 with⟨a5,a6⟩|a5
   ·exact .inl ⟨a5,by omega⟩
   ·exact .inr a5
  ·rw[if_pos (by rw[e1];decide)]
   exact⟨n,by omega,by omega,by omega,h2.up (by omega) (by omega),.inr ⟨e1,hp⟩⟩
theorem Eb (all:List Rec) (f n:Nat) (f':Int) (h1:(f:Int)<=f') (h2:f'<=n):Gd (staA all f) f ((all.take n).drop f) f'=staA all f'.toNat:=by
 unfold Gd staA df;rw[<- List.foldl_append];congr 1
 have e:all.take f'.toNat=all.take f++((all.take f'.toNat).drop f):=by
  have:=zY f (all.take f'.toNat);rw[List.take_take] at this;have e3:min f f'.toNat=f:=by omega
  rw[e3] at this;exact this.symm
 rw[e];congr 1
 have e4:f'.toNat=f+(f'-f).toNat:=by omega
 have e5:all.take f'.toNat=(all.take n).take f'.toNat:=by
  rw[List.take_take];congr 1;omega
 rw[e5];conv=>rhs;rw[List.drop_take]
 congr 1;omega
theorem Sg.sync (h:Sg p k u all lo n s):(aW s).1.ver=s.ver∧Sg p k u all lo n (aW s).1∧(((aW s).2=0∧(aW s).1.sure=n)∨((aW s).2=10∧p=false)):=by
 have hi:=N2 (p:=p) h.idl;have hnx:=h.next;have hlo:=h.sure;have hok:=lE h.ok;obtain⟨f,S,hf,hw⟩:=h.wr;have hsn:=hw.sure;have hs:=hw.sync h.ok;have hsu:(lo:Int)<=(aW s).1.sure:=by
  have e:(aW s).1.sure=if(ai s.disk (ch s.disk.files (fileN s.last.base))).2=0 then s.next else s.sure:=rfl
  rw[e];split <;> omega
 refine⟨hi.2,⟨hok,hi.1.1,⟨f,S,hf,hs.1⟩,h.le,hsu⟩,?_⟩;rcases hs.2 with h1|h1
 ·exact .inl ⟨h1.1,by rw[h1.2.1];exact hnx⟩
 ·refine .inr ⟨h1.1,?_⟩;cases p with
  | false=>rfl
  | true=>exact absurd h1.1 (hi.1.2.2 rfl)
theorem Sg.trim (h:Sg p k u all lo n s) (ha:Lg all) (hu:u<1000000000000) (keep count:Int):(cY s keep count).1.ver<=s.ver+1∧(cY s keep count).1.sure=s.sure∧Sg p (k+2) (u+23000) all lo n (cY s keep count).1∧((cY s keep count).2=0∨((cY s keep count).2=10∧p=false)):=by
 have hi:=R0 (p:=p) h.idl keep count;have hok:=Jm h.ok (fun g hg=>by have:=(h.go ha).base g hg;omega) keep count
 have hnx:=h.next;have hlo:=h.sure;obtain⟨f,S,hf,hw⟩:=h.wr;obtain⟨f',S',l0',h1,h2,h3,h4,_,h6,_,h8,_⟩:=hw.trim h.ok hu keep count;refine⟨hi.2,h6,⟨hok,hi.1.1,⟨f'.toNat,S',by omega,?_⟩,h.le,by omega⟩,?_⟩
 ·have e1:((f'.toNat:Nat):Int)=f':=by omega
  rw[e1,<- Eb all f n f' h1 (by omega),<- h3]
  have e2:(all.take n).drop f'.toNat=((all.take n).drop f).drop (f'-f).toNat:=by
   rw[List.drop_drop];congr 1;omega
  rw[e2];exact h4
 ·rcases h8 with h8|h8|h8
  ·exact .inl h8
  ·exact absurd h8 hi.1.2.1
  ·refine .inr ⟨h8.1,?_⟩;cases p with
   | false=>rfl
   | true=>exact absurd h8.1 (hi.1.2.2 rfl)
theorem Sg.follow (h:Sg p k u all lo n s) (ha:Lg all) (hs:s.sure=n) (c:Cnf) (hseg:1<=c.seg) (j:Nat) (hj:n+j<=all.length) (hu:u<900000000000) :
  ∃ n',n<=n'∧n'<=n+j∧(dW s c ((all.drop n).take j)).1.ver<=s.ver+j+1∧Sg p (k+2*j+2) (u+1000*j+23000) all lo n' (dW s c ((all.drop n).take j)).1 ∧
   (((dW s c ((all.drop n).take j)).2=0∧n'=n+j∧(dW s c ((all.drop n).take j)).1.sure=n')∨((dW s c ((all.drop n).take j)).2=10∧p=false)):=by
 have hal:=ha.len;have hnx:=h.next;obtain⟨n',a1,a2,a3,a4,a5⟩:=Sg.apps ha hseg j h hj (by omega)
 have hlo:=a4.next;unfold dW xm;have hsu:∀ l s,s.sure=(n:Int)->(jj c.seg l s).1.next=n->True:=fun _ _ _ _=>trivial
 generalize hq:jj c.seg ((all.drop n).take j) s=q at *;obtain⟨t,e⟩:=q;simp only at *;rcases a5 with⟨e1,e2⟩|⟨e1,hp⟩
 ·subst e1;rw[if_neg (by decide),hnx,hlo]
  by_cases c1:(n:Int)<n'
  ·rw[if_pos c1];obtain⟨b1,b2,b3⟩:=a4.sync;rcases b3 with⟨b3,b4⟩|⟨b3,b4⟩
   ·rw[if_neg (by simp[b3])]
    obtain⟨d1,d2,d3,d4⟩:=b2.trim ha (by omega) c.keep c.count
    unfold oF;rcases d4 with d4|⟨d4,d5⟩
    ·rw[if_neg (by rw[d4];decide)]
     exact⟨n',a1,a2,by simp only[];omega,d3.up (by omega) (by omega),.inl ⟨rfl,e2,d2.trans b4⟩⟩
    ·rw[if_pos d4];exact⟨n',a1,a2,by simp only[];omega,d3.up (by omega) (by omega),.inr ⟨rfl,d5⟩⟩
   ·rw[if_pos (by rw[b3];decide)]
    exact⟨n',a1,a2,by omega,b2.up (by omega) (by omega),.inr ⟨b3,b4⟩⟩
  ·rw[if_neg c1];have hj0:j=0:=by omega
   subst hj0;rw[List.take_zero] at hq;have ht:t=s:=(congrArg Prod.fst hq).symm;subst ht;obtain⟨d1,d2,d3,d4⟩:=a4.trim ha (by omega) c.keep c.count
   unfold oF;rcases d4 with d4|⟨d4,d5⟩
   ·rw[if_neg (by rw[d4];decide)]
    exact⟨n',a1,a2,by simp only[];omega,d3.up (by omega) (by omega),.inl ⟨rfl,e2,d2.trans (by rw[hs];omega)⟩⟩
   ·rw[if_pos d4];exact⟨n',a1,a2,by simp only[];omega,d3.up (by omega) (by omega),.inr ⟨rfl,d5⟩⟩
 ·subst e1;rw[if_pos rfl];exact⟨n',a1,a2,by simp only[];omega,a4.up (by omega) (by omega),.inr ⟨rfl,hp⟩⟩
variable {all:List Rec}
def pieceL (all l:List Rec):Prop:=∃ a k:Nat,1<=k∧a+k<=all.length∧l=(all.drop a).take k
theorem Fv {a:Nat} (h:a<all.length) (k:Nat):(all.drop a).take (k+1)=all[a]::(all.drop (a+1)).take k:=by
 rw[zD h,List.take_succ_cons]
theorem pg (ha:Lg all) {a k:Nat} (h1:1<=k) (h2:a+k<=all.length):frst ((all.drop a).take k)=a:=by
 obtain⟨j,rfl⟩:∃ j,k=j+1:=⟨k-1,by omega⟩
 rw[Fv (by omega)]
 have:=ha.num a (by omega)
 show all[a].at_=_;omega
theorem qX {a k:Nat} (h2:a+k<=all.length):((all.drop a).take k).length=k:=by
 rw[zQ,zH];omega
theorem Lg.rok (ha:Lg all) (ht:∀ r∈all,r.ok):∀ l,pieceL all l->okB l:=by
 rintro l ⟨a,k,h1,h2,rfl⟩;have:=ha.len;refine⟨by rw[qX h2];omega,by rw[pg ha h1 h2];omega,fun r hr=>ht r (List.mem_of_mem_drop (zZ hr))⟩
structure HD (all:List Rec) (most bytes:Int) (h:List (List Rec)):Prop where
 pc:∀ l∈h,pieceL all l
 srt:h.Pairwise fun a b=>frst a<frst b
 cnt:(h.length:Int)<=most
 byt:(bytH h:Int)<=bytes
variable {most bytes:Int} {h:List (List Rec)}
theorem HD.ok (hi:HD all most bytes h) (ha:Lg all) (ht:∀ r∈all,r.ok) (hm:most<=1000):okH h :=
 ⟨by have:=hi.cnt;omega,fun l hl=>ha.rok ht l (hi.pc l hl),hi.srt⟩
theorem uA:∀ {a b:List (List Rec)},a.Sublist b->bytH a<=bytH b
 | _,_,.slnil=>Nat.le_refl _
 | _,_,.cons x h=>by have:=uA h;simp only[bytH];omega
 | _,_,.cons_cons x h=>by have:=uA h;simp only[bytH];omega
theorem HD.sub (hi:HD all most bytes h) {h':List (List Rec)} (hs:h'.Sublist h):HD all most bytes h' :=
 ⟨fun l hl=>hi.pc l (hs.subset hl),hi.srt.sublist hs,by have:=hs.length_le;have:=hi.cnt;omega,by have:=uA hs;have:=hi.byt;omega⟩
theorem HD.rest (hi:HD all most bytes h) (a:Int):HD all most bytes (fe h a):=hi.sub List.filter_sublist
theorem vP:∀ a b:List (List Rec),bytH (a++b)=bytH a+bytH b
 | [],b=>by simp[bytH]
 | x::a,b=>by simp only[List.cons_append,bytH,vP a b];omega
theorem HD.put (hi:HD all most bytes h) {l:List Rec} (hl:l.length=0∨pieceL all l) (next:Int):HD all most bytes (GP h l next most bytes):=by
 unfold GP;split
 ·exact hi
 ·rename_i c;simp only[not_or] at c;obtain⟨c1,c2,c3,c4,c5⟩:=c;have hp:=hl.resolve_left c1;have hlt:=Al hi.srt (frst l);have hle:=yP h (frst l);have hcat:h.take (dR h (frst l))++h.drop (dR h (frst l))=h:=zY _ _;refine⟨fun x hx=>?_,?_,?_,?_⟩
  ·rcases zX.1 hx with hx|hx
   ·exact hi.pc x (zZ hx)
   ·rcases List.mem_cons.1 hx with rfl|hx
    ·exact hp
    ·exact hi.pc x (List.mem_of_mem_drop hx)
  ·have hs:=hi.srt;rw[<- hcat] at hs;have hs2:=List.pairwise_append.1 hs;have hA:∀ x∈h.take (dR h (frst l)),frst x<frst l:=fun x hx=>by
    obtain⟨i,hii,rfl⟩:=zJ hx;rw[zQ] at hii;rw[List.getElem_take];exact(hlt i (by omega)).2 (by omega)
   have hB:∀ x∈h.drop (dR h (frst l)),frst l<frst x:=fun x hx=>by
    obtain⟨i,hii,rfl⟩:=zJ hx;rw[zH] at hii;rw[List.getElem_drop];have h1:=(hlt (dR h (frst l)) (by omega)).1
    have h2:frst h[dR h (frst l)]≠frst l:=fun e=>c4 (by
     unfold yd;rw[zE (by omega)]
     simp[e])
    have h0:¬ frst h[dR h (frst l)]<frst l:=fun e=>Nat.lt_irrefl _ (h1 e)
    by_cases ci:i=0
    ·subst ci;simp only[Nat.add_zero];omega
    ·have h3:frst h[dR h (frst l)]<frst h[dR h (frst l)+i]:=List.pairwise_iff_getElem.1 hi.srt _ _ _ _ (by omega)
     omega
   exact List.pairwise_append.2 ⟨hs2.1,List.pairwise_cons.2 ⟨hB,hs2.2.1⟩,fun a hA' b hb=>by
    rcases List.mem_cons.1 hb with rfl|hb
    ·exact hA a hA'
    ·exact hs2.2.2 a hA' b hb⟩
  ·have:(h.take (dR h (frst l))++l::h.drop (dR h (frst l))).length=h.length+1:=by
    rw[zA,List.length_cons,zQ,zH];omega
   rw[this];omega
  ·have:bytH (h.take (dR h (frst l))++l::h.drop (dR h (frst l)))=bytH h+kv l:=by
    have e:bytH h=bytH (h.take (dR h (frst l)))+bytH (h.drop (dR h (frst l))):=by rw[<- vP,hcat]
    rw[vP,e];show _+(kv l+_)=_;omega
   rw[this];omega
theorem takeH_law (ha:Lg all):∀ (h:List (List Rec)) (n:Nat) (out:List Rec),(∀ l∈h,pieceL all l)->n<=all.length ->
  ∃ j,n+j<=all.length∧(gQ h n out).1=out++(all.drop n).take j∧(gQ h n out).2.Sublist h∧(all.length<=n+j->(gQ h n out).2=[])
 | [],n,out,_,hn=>⟨0,hn,by simp[gQ],List.Sublist.slnil,fun _=>rfl⟩
 | l::h,n,out,hp,hn=>by
  have hp':∀ x∈h,pieceL all x:=fun x hx=>hp x (List.mem_cons_of_mem _ hx)
  obtain⟨a,k,h1,h2,rfl⟩:=hp l (List.mem_cons_self ..);unfold gQ;rw[pg ha h1 h2,qX h2];by_cases c1:(n:Int)<a
  ·rw[if_pos c1];exact⟨0,hn,by simp,List.Sublist.refl _,fun h=>by omega⟩
  ·rw[if_neg c1];by_cases c2:(n:Int)<(a:Int)+(k:Nat)
   ·rw[if_pos c2];have e:(a:Int)+(k:Nat)=((a+k:Nat):Int):=by omega
    rw[e];obtain⟨j,b1,b2,b3,b4⟩:=takeH_law ha h (a+k) (out++((all.drop a).take k).drop ((n:Int)-a).toNat) hp' h2;refine⟨a+k-n+j,by omega,?_,b3.cons _,fun h=>b4 (by omega)⟩
    rw[b2,List.append_assoc];congr 1
    have e1:((n:Int)-a).toNat=n-a:=by omega
    have e2:((all.drop a).take k).drop (n-a)=(all.drop n).take (a+k-n):=by
     rw[List.drop_take,List.drop_drop];have z1:a+(n-a)=n:=by omega
     have z2:k-(n-a)=a+k-n:=by omega
     rw[z1,z2]
    rw[e1,e2,List.take_add,List.drop_drop];have z3:n+(a+k-n)=a+k:=by omega
    rw[z3]
   ·rw[if_neg c2];obtain⟨j,b1,b2,b3,b4⟩:=takeH_law ha h n out hp' hn;exact⟨j,b1,b2,b3.cons _,b4⟩
variable {p:Bool} {k u lo n:Nat} {all:List Rec} {s:Sto}
theorem Lg.sta (ha:Lg all) (a:Nat):gZ (staA all a)∧okV (staA all a)∧(staA all a).length<=30:=by
 have hd:∀ r∈all.take a,r.da.length<=64:=fun r hr=>by
  have hw:=ha.why r (zZ hr);unfold whyF at hw;split at hw
  ·split at hw
   ·assumption
   ·exact absurd hw (by decide)
  ·exact absurd hw (by decide)
 have h1:=nz (all.take a) [] List.Pairwise.nil (fun p hp=>by cases hp) hd
 have h2:=rE (all.take a) [] (fun p hp=>by cases hp) hd
 refine⟨h1.1,h2,?_⟩;have h3:=h1.2.2;have:=ha.len;rw[zQ] at h3;have e:(staA all a).length=(df [] (all.take a)).length:=rfl;rw[e];simp only[List.length_nil] at h3;omega
theorem Lg.sn (ha:Lg all) (a:Nat):1<=(eL all a).length∧(eL all a).length<=2300∧aU (eL all a)=some (staA all a):=by
 obtain⟨h1,h2,h3⟩:=ha.sta a;have h4:=wQ h2.okP (by omega)
 have h5:=sM h1 h2;exact⟨h5.1,by unfold eL;omega,sC h1 h2⟩
theorem Sg.inst (h:Sg p k u all lo n s) (ha:Lg all) (hu:u<1000000000000) {a:Nat} (hna:n<a) (hal:a<=all.length) (hk:okS (k+3) (u+30000) (bw s a (eL all a)).1) :
  (bw s a (eL all a)).1.ver<=s.ver+1∧(((bw s a (eL all a)).2=0∧Sg p (k+3) (u+30000) all lo a (bw s a (eL all a)).1∧(bw s a (eL all a)).1.sure=a) ∨
   ((bw s a (eL all a)).2=10∧p=false∧∃ n',(n'=n∨n'=a)∧Sg p (k+3) (u+30000) all lo n' (bw s a (eL all a)).1)):=by
 have hi:=Ri (p:=p) h.idl a (eL all a);have hnx:=h.next;have hlo:=h.sure;obtain⟨h1,h2,h3⟩:=ha.sn a;obtain⟨f,S,hf,hw⟩:=h.wr;have hws:=hw.sure;have hlen:=ha.len;have h5:=hw.inst h.ok hu a (x:=eL all a) (by omega)
 have hp10:(bw s a (eL all a)).2=10->p=false:=fun e=>by
  cases p with
  | false=>rfl
  | true=>exact absurd e (hi.1.2.2 rfl)
 refine⟨hi.2,?_⟩;rcases h5 with⟨_,_,e|e|e⟩|⟨q,hq,_,_,⟨e1,e2,e3,e4,e5⟩|⟨e1,e2,e3,e4,e5⟩⟩
 ·rw[h3] at e;cases e
 ·omega
 ·omega
 ·rcases e1 with⟨e1,_⟩|⟨e1,_⟩
  ·exact absurd e1 hi.1.2.1
  ·refine .inr ⟨e1,hp10 e1,n,.inl rfl,hk,hi.1.1,⟨f,S,hf,e5⟩,h.le,?_⟩;rw[e2];exact hlo
 ·rw[h3] at hq;cases hq;have hsg:Sg p (k+3) (u+30000) all lo a (bw s a (eL all a)).1:=by
   refine⟨hk,hi.1.1,⟨a,eL all a,Nat.le_refl _,?_⟩,hal,by omega⟩
   rw[zC (by rw[zQ];omega)]
   exact e2
  rcases e1 with⟨e1,_⟩|⟨e1,_⟩
  ·exact .inl ⟨e1,hsg,e4⟩
  ·exact .inr ⟨e1,hp10 e1,a,.inr rfl,hsg⟩
def BI (all:List Rec) (b:Boo):Prop:=0<=b.at_∧b.at_<=all.length∧∃ j,b.got=(eL all b.at_.toNat).take j
theorem BI.zero:BI all bF:=⟨Int.le_refl _,by show(0:Int)<=_;omega,0,by simp[bF]⟩
theorem BI.len (ha:Lg all) {b:Boo} (h:BI all b):b.got.length<=2300:=by
 obtain⟨h1,h2,j,h3⟩:=h;have:=(ha.sn b.at_.toNat).2.1;rw[h3,zQ];omega
theorem Mt (S:Txt) (j i to_:Nat) (hi:i<=S.length) (ht:i<=to_) (x:Int) (hx:x=(i:Nat)):∃ j',(if x=((S.take j).length:Nat) then S.take j++(S.take to_).drop i else S.take j)=S.take j':=by
 split
 ·rename_i c;refine⟨to_,?_⟩;have e:S.take j=S.take i:=by
   rw[zQ] at c;by_cases c2:j<=S.length
   ·have:j=i:=by omega
    rw[this]
   ·have:i=S.length:=by omega
    rw[zL (by omega),this,List.take_length]
  rw[e];have:=zY i (S.take to_);rw[List.take_take,Nat.min_eq_left ht] at this;exact this
 ·exact⟨j,rfl⟩
theorem BI.chunk {f:Fw} (h:BI all f.bo) {a:Nat} (hal:a<=all.length) (i to_:Nat) (hi:i<=(eL all a).length) (ht:i<=to_) :
  BI all (fH f (gT (a:Int) (i:Nat) ((eL all a).length:Nat) (cE (eL all a)) (((eL all a).take to_).drop i))):=by
 have hg:∃ j,uV f (gT (a:Int) (i:Nat) ((eL all a).length:Nat) (cE (eL all a)) (((eL all a).take to_).drop i))=(eL all a).take j:=by
  unfold uV;split
  ·rename_i c;obtain⟨_,_,j,h3⟩:=h;refine⟨j,?_⟩;rw[h3,<- c.1];try rfl
  ·exact⟨0,by simp⟩
 obtain⟨j,hj⟩:=hg;unfold fH;refine⟨by show(0:Int)<=a;omega,by show(a:Int)<=_;omega,?_⟩
 simp only[hj];exact Mt (eL all a) j i to_ hi ht _ rfl
end Go.Proofs.YtgoifbjgmgbihaaGreat
