import Derived.Test.YtgoifbjgmgbihaaGreatVic
import Derived.Shelf.Lays2
import Derived.Shelf.Spec.SlicesInsertGrow
set_option linter.unusedSimpArgs false
set_option linter.unusedVariables false
set_option maxRecDepth 20000
set_option maxHeartbeats 16000000
/- An interpreter of values: what it answers the program answers. -/
namespace Go.Vi
open Go.Shelf Go.RowKit Go.Lib Go.Proofs
set_option linter.unusedSimpArgs false
set_option linter.unusedVariables false
structure InsLay (P:Program) (ρ:Ren) (k bytes:Nat):Prop where
 mixed:P.follows .mixedOrders=true
 f22:∃ nm,P.funcs[ρ.f 22]?=some { Body2.n22 ρ with name:=nm }
 ov:∀ (x y:Value) (w:World),(callFunc (ρ.f 29) #[x,y]).run P w=(Extern.SlicesOverlaps.overlaps #[ρ.t 24,ρ.t 24] #[ρ.t 4] #[x,y] >>= fun v=>pure (.value v)).run P w
 t0:P.underlying (ρ.t 0)=some (TypeDesc.tuple #[])
 a0:∀ w,(isAgg (ρ.t 0)).run P w=.ok false w
 z0:∀ w,(Go.sizeOf (ρ.t 0)).run P w=.ok 1 w
 v0:∀ w,(zeroValue (ρ.t 0)).run P w=.ok (Value.tuple #[]) w
 t3:P.underlying (ρ.t 3)=some (TypeDesc.int IntKind.i64)
 a3:∀ w,(isAgg (ρ.t 3)).run P w=.ok false w
 z3:∀ w,(Go.sizeOf (ρ.t 3)).run P w=.ok 1 w
 v3:∀ w,(zeroValue (ρ.t 3)).run P w=.ok (Value.int IntKind.i64 0) w
 t4:P.underlying (ρ.t 4)=some (TypeDesc.bool)
 a4:∀ w,(isAgg (ρ.t 4)).run P w=.ok false w
 z4:∀ w,(Go.sizeOf (ρ.t 4)).run P w=.ok 1 w
 v4:∀ w,(zeroValue (ρ.t 4)).run P w=.ok (Value.bool false) w
 t24:P.underlying (ρ.t 24)=some (TypeDesc.slice (ρ.t 9))
 a24:∀ w,(isAgg (ρ.t 24)).run P w=.ok false w
 z24:∀ w,(Go.sizeOf (ρ.t 24)).run P w=.ok 1 w
 v24:∀ w,(zeroValue (ρ.t 24)).run P w=.ok (Value.slice none 0 0) w
 j9:(P.info? (ρ.t 9)).map (fun i=>(i.size,i.bytes,i.zero.map fun z=>z.cells.size))=some (k,bytes,some k)
 kp:0<k
 z9:∀ w,(Go.sizeOf (ρ.t 9)).run P w=.ok k w
theorem O5 {P:Program} {t:TypeId} {k bytes:Nat} (h:(P.info? t).map (fun i=>(i.size,i.bytes,i.zero.map fun z=>z.cells.size))=some (k,bytes,some k)) :
  ∃ inf z,P.info? t=some inf∧inf.zero=some z∧z.cells.size=inf.size∧inf.size=k∧inf.bytes=bytes:=by
 obtain⟨inf,h1,h2⟩:=Option.map_eq_some_iff.1 h;simp only[Prod.mk.injEq] at h2;obtain⟨h3,h4,h5⟩:=h2;obtain⟨z,h6,h7⟩:=Option.map_eq_some_iff.1 h5;exact⟨inf,z,h1,h6,h7.trans h3.symm,h3,h4⟩
theorem InsLay.i9 {P:Program} {ρ:Ren} {k bytes:Nat} (L:InsLay P ρ k bytes):∃ inf z,P.info? (ρ.t 9)=some inf∧inf.zero=some z∧z.cells.size=inf.size∧inf.size=k∧inf.bytes=bytes∧0<k:=by
 obtain⟨inf,z,h1,h2,h3,h4,h5⟩:=O5 L.j9;exact⟨inf,z,h1,h2,h3,h4,h5,L.kp⟩
section
variable {P:Program} {ρ:Ren} {k bytes:Nat} {w:World}
theorem jr {dT sT ty e:TypeId} {i:TypeInfo} (ht:P.underlying dT=some (.slice e)) (hinf:P.info? e=some i) {B o dLen dCap n sn:Nat} {cur:Array Value} {el:TypeId} {f:Nat × Nat} {x:Value} {cs:List Value}
  (hg:w.heap[B]?=some (.cells cur el f)) (hof:zj f cur.size) (hl:(Builtin.lenOf x).run P w=.ok sn w) (hn:n=Nat.min sn dLen) (hcs:(Builtin.firstCells i.size n x).run P w=.ok cs.toArray w)
  (hfit:o+cs.length<=cur.size) (h1:∀ v∈cs,v.oneCell'=true) :
  (Builtin.copy_ #[dT,sT] ty #[.slice (some ⟨B,o,none⟩) dLen dCap,x]).run P w=.ok (goInt n) (w.setRow B (cur.toList.take o++cs++cur.toList.drop (o+cs.length)).toArray):=by
 have hst:=dC (P:=P) B o el f cs 0 cur w hg hof (by simpa using hfit) h1
 simp only[Nat.add_zero] at hst;subst hn;simp[Builtin.copy_,run_underlying ht,sizeOf,typeInfo,hinf,hl,hcs,hst]
theorem lO {B:Nat} {cur:Array Value} {e:TypeId} {f:Nat × Nat} (h:w.heap[B]?=some (.cells cur e f)) (o n:Nat) (hfit:o+n<=cur.size) (size m sn cap:Nat) (hn:n=m*size) (hm:m<=sn) :
  (Builtin.firstCells size m (.slice (some ⟨B,o,none⟩) sn cap)).run P w=.ok ((cur.toList.drop o).take n).toArray w :=
 run_firstCells_some w size m _ _ _ _ (by simp;omega) (fun j u hu=>by
  rw[tO h];rw[List.getElem?_take] at hu;split at hu
  ·rw[List.getElem?_drop] at hu;exact hu
  ·cases hu)
theorem HA (L:InsLay P ρ k bytes) {B VB n c i vc:Nat} {cur vcur:Array Value} {el vel:TypeId} {fB:Nat × Nat} (hi:i<n) (hroom:n+1<=c) (hc63:c<=9223372036854775807) (hne:VB≠B)
  (hB:w.heap[B]?=some (.cells cur el fB)) (hoB:zj fB cur.size) (hsz:cur.size=c*k) (hV:w.heap[VB]?=some (.cells vcur vel (0,0))) (hvs:k<=vcur.size)
  (h1c:∀ v∈cur.toList.take (n*k),v.oneCell'=true) (h1v:∀ v∈vcur.toList.take k,v.oneCell'=true) :
  Calls P (ρ.f 22) #[.slice (some ⟨B,0,none⟩) n c,.int .i64 i,.slice (some ⟨VB,0,none⟩) 1 vc] w fun e w' =>
   e=.returned (.slice (some ⟨B,0,none⟩) (n+1) c)∧w'=w.drew.setRow B (cur.toList.take (i*k)++vcur.toList.take k++((cur.toList.drop (i*k)).take ((n-i)*k))++cur.toList.drop ((n+1)*k)).toArray:=by
 have t0:=L.t0;have a0:=L.a0;have z0:=L.z0;have v0:=L.v0;have t3:=L.t3;have a3:=L.a3;have z3:=L.z3;have v3:=L.v3;have t4:=L.t4;have a4:=L.a4;have z4:=L.z4;have v4:=L.v4;have z9:=L.z9;have t24:=L.t24;have a24:=L.a24;have z24:=L.z24;have v24:=L.v24;have u0:=run_underlying L.t0;have u3:=run_underlying L.t3;have u4:=run_underlying L.t4;have u24:=run_underlying L.t24;obtain⟨inf,z,hinf,hz,hzs,hk,hby,hkp⟩:=L.i9;obtain⟨nm,f22⟩:=L.f22;have hz2:¬ ((i:Int)=(n:Int)):=by omega
 have mixed:=L.mixed;have hw1:IntKind.i64.wrap ((i:Int)+1)=(i:Int)+1:=by rw[IntKind.wrap_i64];omega
 have hw2:IntKind.i64.wrap ((n:Int)+1)=(n:Int)+1:=by rw[IntKind.wrap_i64];omega
 have hb1:(0:Int)<=(i:Int)+1:=by omega
 have htn:((i:Int)+1).toNat=i+1:=by omega
 have htn2:((n:Int)+1).toNat=n+1:=by omega
 have hb2:¬ (c=i+1):=by omega
 have hb3:(i:Int)<=(n:Int)+1:=by omega
 have hb4:¬ (c=i):=by omega
 have hb5:¬ ((c:Int)<(n:Int)+1):=by omega
 have hb6:(n:Int)+1<=(c:Int):=by omega
 have hb7:(i:Int)+1<=(n:Int)+1:=by omega
 have hov:∀ lb cb,(callFunc (ρ.f 29) #[.slice (some ⟨VB,0,none⟩) 1 vc,.slice (some ⟨B,(i+1)*k,none⟩) lb cb]).run P w=.ok (.value (.bool false)) w:=fun lb cb=>by
  rw[L.ov];simp only[Sem.run_bind];rw[Lib.run_overlaps_apart w (ρ.t 24) (ρ.t 4) (ρ.t 9) L.t24 k L.z9 ⟨VB,0,none⟩ ⟨B,(i+1)*k,none⟩ 1 vc lb cb hne vel el vcur.size cur.size (by simp[World.shape?,hV]) (by simp[World.shape?,hB]) (by rw[hsz];intro h;have:=Nat.mul_eq_zero.1 h;omega) (by simp[World.frozen?,hV]) (by simp[World.frozen?,hV])]
  rfl
 have hcl:cur.toList.length=c*k:=by simpa using hsz
 have hik:i*k+k=(i+1)*k:=by rw[Nat.add_mul,Nat.one_mul]
 have hnk:(i+1)*k+(n-i)*k=(n+1)*k:=by rw[<- Nat.add_mul];congr 1;omega
 have hle1:(n+1)*k<=c*k:=Nat.mul_le_mul_right _ hroom;have hle2:i*k+(n-i)*k=n*k:=by rw[<- Nat.add_mul];congr 1;omega
 have hnn:(n+1)*k=n*k+k:=by rw[Nat.add_mul,Nat.one_mul]
 obtain⟨mid,hmid⟩:∃ mid,mid=(cur.toList.drop (i*k)).take ((n-i)*k):=⟨_,rfl⟩;have hml:mid.length=(n-i)*k:=by rw[hmid];simp;omega
 obtain⟨cur1,hc1⟩:∃ cur1,cur1=(cur.toList.take ((i+1)*k)++mid++cur.toList.drop ((n+1)*k)).toArray:=⟨_,rfl⟩;have hl1:cur1.size=c*k:=by rw[hc1];simp;omega
 have hcp1:∀ ty dc sc,(Builtin.copy_ #[ρ.t 24,ρ.t 24] ty #[.slice (some ⟨B,(i+1)*k,none⟩) (n-i) dc,.slice (some ⟨B,i*k,none⟩) (n+1-i) sc]).run P w.drew=.ok (goInt ((n-i:Nat):Int)) (w.drew.setRow B cur1):=fun ty dc sc=>by
  have h:=jr (P:=P) (w:=w.drew) (sT:=ρ.t 24) (ty:=ty) (dCap:=dc) (o:=(i+1)*k) (n:=n-i) (x:=.slice (some ⟨B,i*k,none⟩) (n+1-i) sc) (dLen:=n-i) (cs:=mid) (sn:=n+1-i) L.t24 hinf (show w.drew.heap[B]?=_ from hB) hoB rfl (by simp only[Nat.min_def];split <;> omega)
   (by rw[hk,hmid];exact lO (w:=w.drew) hB _ _ (by rw[hsz];omega) _ _ _ _ rfl (by omega)) (by rw[hml,hsz,hnk];exact hle1)
   (fun v hv=>h1c v (by rw[hmid] at hv;rw[<- hle2,List.take_add];exact List.mem_append_right _ hv))
  rw[hml,hnk,<- hc1] at h;exact h
 have hB1:(w.drew.setRow B cur1).heap[B]?=some (.cells cur1 el fB):=setRow_heap w.drew B cur cur1 el fB hB;have hV1:(w.drew.setRow B cur1).heap[VB]?=some (.cells vcur vel (0,0)):=by rw[setRow_other _ _ _ _ hne];exact hV
 have hvl:(vcur.toList.take k).length=k:=by simp;omega
 have hcp2:∀ ty dc,(Builtin.copy_ #[ρ.t 24,ρ.t 24] ty #[.slice (some ⟨B,i*k,none⟩) (n+1-i) dc,.slice (some ⟨VB,0,none⟩) 1 vc]).run P (w.drew.setRow B cur1) =
   .ok (goInt 1) ((w.drew.setRow B cur1).setRow B (cur1.toList.take (i*k)++vcur.toList.take k++cur1.toList.drop (i*k+k)).toArray):=fun ty dc=>by
  have h:=jr (P:=P) (w:=w.drew.setRow B cur1) (sT:=ρ.t 24) (ty:=ty) (dCap:=dc) (o:=i*k) (n:=1) (x:=.slice (some ⟨VB,0,none⟩) 1 vc) (dLen:=n+1-i) (cs:=vcur.toList.take k) (sn:=1) L.t24 hinf hB1 (by rw[hl1,<- hsz];exact hoB) rfl (by simp only[Nat.min_def];split <;> omega)
   (by
    rw[hk];have:=lO (P:=P) (w:=w.drew.setRow B cur1) hV1 0 k (by omega) k 1 1 vc (by omega) (Nat.le_refl _)
    rw[List.drop_zero] at this;exact this) (by rw[hvl,hl1];omega) h1v
  rw[hvl] at h;exact h
 have hend:(cur1.toList.take (i*k)++vcur.toList.take k++cur1.toList.drop (i*k+k)).toArray=(cur.toList.take (i*k)++vcur.toList.take k++mid++cur.toList.drop ((n+1)*k)).toArray:=by
  congr 1
  have e1:cur1.toList.take (i*k)=cur.toList.take (i*k):=by
   rw[hc1];simp only[List.toList_toArray];rw[List.append_assoc,List.take_append_of_le_length (by simp;omega),List.take_take,Nat.min_eq_left (by omega)]
  have e2:cur1.toList.drop (i*k+k)=mid++cur.toList.drop ((n+1)*k):=by
   rw[hc1];simp only[List.toList_toArray];rw[List.append_assoc,List.drop_append_of_le_length (by simp;omega),List.drop_eq_nil_of_le (by simp;omega),List.nil_append]
  rw[e1,e2];simp only[List.append_assoc]
 rw[setRow_setRow,hend] at hcp2;rw[<- hmid];generalize (cur.toList.take (i*k)++vcur.toList.take k++mid++cur.toList.drop ((n+1)*k)).toArray=FIN at hcp2 ⊢;clear hend hB1 hV1 hl1 hml hc1 hmid hnn hle2 hle1 hnk hik hcl;go_enter f22,Body2.n22_ntmps ρ
 go_wp2_with (simp only[hov])
 go_region_law_o (refine step_copy_runI rfl _ _ (ρ.t 24) (ρ.t 24) rfl _ _ (by simp[Act.eval,Act.put]) (by simp[Act.eval,Act.put]) (hcp1 _ _ _) ?_)
 go_wp2_with (at_builtin;refine wpList_copy_runI _ rfl _ _ (ρ.t 24) (ρ.t 24) rfl _ _ rfl rfl (hcp2 _ _) ?_)
 go_ret
 exact⟨rfl,rfl⟩
theorem vT (w:World) (c c':Array Value) (t:TypeId):(w.alloc (.cells c t)).setRow w.heap.size c'=w.alloc (.cells c' t):=by
 unfold World.setRow World.alloc;congr 1
 refine Array.ext_getElem? fun i=>?_
 rw[Array.getElem?_modify,Array.getElem?_push,Array.getElem?_push];by_cases h:w.heap.size=i
 ·simp[h]
 ·rw[if_neg h,if_neg (fun e=>h e.symm),if_neg (fun e=>h e.symm)]
theorem MA (L:InsLay P ρ k bytes) {base:Option Addr} {n c VB vc:Nat} {r:Value} {w1:World} (hnc:n<=c) (hc63:c<=9223372036854775807) (hnil:base=none->c=0)
  (hr:∀ ty,(Builtin.append_ #[ρ.t 24,ρ.t 24] ty #[.slice base n c,.slice (some ⟨VB,0,none⟩) 1 vc]).run P w=.ok r w1) :
  Calls P (ρ.f 22) #[.slice base n c,.int .i64 n,.slice (some ⟨VB,0,none⟩) 1 vc] w fun e w'=>e=.returned r∧w'=w1:=by
 have t0:=L.t0;have a0:=L.a0;have z0:=L.z0;have v0:=L.v0;have t3:=L.t3;have a3:=L.a3;have z3:=L.z3;have v3:=L.v3;have t4:=L.t4;have a4:=L.a4;have z4:=L.z4;have v4:=L.v4;have z9:=L.z9;have t24:=L.t24;have a24:=L.a24;have z24:=L.z24;have v24:=L.v24;have u0:=run_underlying L.t0;have u3:=run_underlying L.t3;have u4:=run_underlying L.t4;have u24:=run_underlying L.t24;obtain⟨nm,f22⟩:=L.f22;have mixed:=L.mixed;go_enter f22,Body2.n22_ntmps ρ
 cases base with
 | none =>
  have h0:=hnil rfl;subst h0;have h1:n=0:=by omega
  subst h1;go_wp2_with (at_builtin;refine Lib.wpList_append_run _ rfl _ _ _ _ rfl _ _ rfl rfl _ _ (hr _) ?_)
  go_ret
  exact⟨rfl,rfl⟩
 | some a =>
  obtain⟨ab,ao,asp⟩:=a;go_wp2_with (at_builtin;refine Lib.wpList_append_run _ rfl _ _ _ _ rfl _ _ rfl rfl _ _ (hr _) ?_)
  all_goals (go_ret;exact⟨rfl,rfl⟩)
theorem I4 (L:InsLay P ρ k bytes) {B VB n i vc:Nat} {cur vcur:Array Value} {el vel:TypeId} {fB fV:Nat × Nat} {inf:TypeInfo} {z:Value} (hinf:P.info? (ρ.t 9)=some inf) (hz:inf.zero=some z) (hzs:z.cells.size=inf.size) (hk:inf.size=k) (hby:inf.bytes=bytes) (hkp:0<k)
  (hi:i<n) (hc63:n+1<=9223372036854775807) (hbig:(n+1)*bytes<=140737488355328)
  (hB:w.heap[B]?=some (.cells cur el fB)) (hsz:cur.size=n*k) (hV:w.heap[VB]?=some (.cells vcur vel fV)) (hvs:k<=vcur.size)
  (h1c:∀ v∈cur.toList.take (n*k),v.oneCell'=true) (h1v:∀ v∈vcur.toList.take k,v.oneCell'=true) :
  Calls P (ρ.f 22) #[.slice (some ⟨B,0,none⟩) n n,.int .i64 i,.slice (some ⟨VB,0,none⟩) 1 vc] w fun e w' =>
   e=.returned (.slice (some ⟨w.heap.size,0,none⟩) (n+1) (grownCap w (n+1) n (ρ.t 9))) ∧
   w'=w.drew.drew.alloc (.cells (cur.toList.take (i*k)++vcur.toList.take k++(cur.toList.drop (i*k)).take ((n-i)*k)++(Builtin.zeroCells z.cells (grownCap w (n+1) n (ρ.t 9)-(n+1))).toList).toArray (ρ.t 9)):=by
 have t0:=L.t0;have a0:=L.a0;have z0:=L.z0;have v0:=L.v0;have t3:=L.t3;have a3:=L.a3;have z3:=L.z3;have v3:=L.v3;have t4:=L.t4;have a4:=L.a4;have z4:=L.z4;have v4:=L.v4;have z9:=L.z9;have t24:=L.t24;have a24:=L.a24;have z24:=L.z24;have v24:=L.v24;have u0:=run_underlying L.t0;have u3:=run_underlying L.t3;have u4:=run_underlying L.t4;have u24:=run_underlying L.t24;obtain⟨nm,f22⟩:=L.f22;have mixed:=L.mixed;have hz2:¬ ((i:Int)=(n:Int)):=by omega
 have hz3:(n:Int)<(n:Int)+1:=by omega
 have hw1:IntKind.i64.wrap ((i:Int)+1)=(i:Int)+1:=by rw[IntKind.wrap_i64];omega
 have hw2:IntKind.i64.wrap ((n:Int)+1)=(n:Int)+1:=by rw[IntKind.wrap_i64];omega
 have hkk:(n:Int)+1-(i:Int)=((n+1-i:Nat):Int):=by omega
 have hw3:IntKind.i64.wrap ((n:Int)+1-(i:Int))=(n:Int)+1-(i:Int):=by rw[IntKind.wrap_i64];omega
 have hik:i+(n+1-i)=n+1:=by omega
 have hGn:=grownCap_ge w (n+1) n (ρ.t 9);have hG63:grownCap w (n+1) n (ρ.t 9)<=9223372036854775807:=by
  have:=grownCap_le_maxLen w (n+1) n (ρ.t 9) (by unfold maxLen;omega)
  unfold maxLen at this;omega
 obtain⟨G,hG⟩:∃ G,G=grownCap w (n+1) n (ρ.t 9):=⟨_,rfl⟩;have hcl:cur.toList.length=n*k:=by simpa using hsz
 have hik2:i*k+k=(i+1)*k:=by rw[Nat.add_mul,Nat.one_mul]
 have hnk:i*k+(n-i)*k=n*k:=by rw[<- Nat.add_mul];congr 1;omega
 have hnk2:(i+1)*k+(n-i)*k=(n+1)*k:=by rw[<- Nat.add_mul];congr 1;omega
 have hle1:i*k<=n*k:=Nat.mul_le_mul_right _ (by omega)
 have hle2:(n+1)*k=n*k+k:=by rw[Nat.add_mul,Nat.one_mul]
 obtain⟨mid,hmid⟩:∃ mid,mid=(cur.toList.drop (i*k)).take ((n-i)*k):=⟨_,rfl⟩;have hml:mid.length=(n-i)*k:=by rw[hmid];simp;omega
 obtain⟨Z,hZ⟩:∃ Z,Z=(Builtin.zeroCells z.cells (G-(n+1))).toList:=⟨_,rfl⟩;obtain⟨Y,hY⟩:∃ Y,Y=(Builtin.zeroCells z.cells (n+1-i)).toList:=⟨_,rfl⟩;have hYl:Y.length=(n+1-i)*k:=by rw[hY];simp only[Array.length_toList,size_zeroCells,hzs,hk]
 have hYk:i*k+Y.length=(n+1)*k:=by rw[hYl,<- Nat.add_mul];congr 1
 obtain⟨ROW,hROW⟩:∃ ROW,ROW=(cur.toList.take (i*k)).toArray++Builtin.zeroCells z.cells (n+1-i)++Builtin.zeroCells z.cells (G-(n+1)):=⟨_,rfl⟩;have hRl:ROW.toList=cur.toList.take (i*k)++Y++Z:=by rw[hROW,hY,hZ];simp
 have hRs:ROW.size=(n+1)*k+Z.length:=by rw[<- Array.length_toList,hRl];simp;omega
 have hold:(Builtin.firstCells inf.size i (.slice (some ⟨B,0,none⟩) i n)).run P w.drew=.ok (cur.toList.take (i*k)).toArray w.drew:=by
  rw[hk];have:=lO (P:=P) (w:=w.drew) hB 0 (i*k) (by omega) k i i n rfl (Nat.le_refl _)
  rw[List.drop_zero] at this;exact this
 have hrz:∀ ty,(Builtin.append_ #[(ρ.t 24),(ρ.t 3)] ty #[.slice (some ⟨B,0,none⟩) i n,.int .i64 ((n:Int)+1-(i:Int))]).run P w=.ok (.slice (some ⟨w.heap.size,0,none⟩) (n+1) G) (w.drew.alloc (.cells ROW (ρ.t 9))):=fun ty=>by
  have h:=Lib.run_append_grow_zeros w (ρ.t 24) (ρ.t 3) ty (ρ.t 9) inf _ .i64 .i64 L.t24 L.t3 hinf hz (some ⟨B,0,none⟩) i n _ hold (n+1-i) (by omega) (by omega) (by omega) (by omega)
   (by rw[hby];have:(n+1-i)*bytes<=(n+1)*bytes:=Nat.mul_le_mul_right _ (by omega);omega) (by rw[hby,hik];exact growslice_fits (by omega) hbig)
  rw[hik,<- hG,<- hROW] at h;rw[hkk];exact h
 have hBlt:B<w.heap.size:=(Array.getElem?_eq_some_iff.1 hB).1;have hVlt:VB<w.heap.size:=(Array.getElem?_eq_some_iff.1 hV).1;have hvl:(vcur.toList.take k).length=k:=by simp;omega
 obtain⟨cur1,hc1⟩:∃ cur1,cur1=(ROW.toList.take (i*k)++vcur.toList.take k++ROW.toList.drop (i*k+k)).toArray:=⟨_,rfl⟩;have hl1:cur1.size=ROW.size:=by rw[hc1];simp;omega
 have hA:∀ (W:World),W.heap=(w.alloc (.cells ROW (ρ.t 9))).heap->∀ ty dc,(Builtin.copy_ #[ρ.t 24,ρ.t 24] ty #[.slice (some ⟨w.heap.size,i*k,none⟩) (n+1-i) dc,.slice (some ⟨VB,0,none⟩) 1 vc]).run P W =
   .ok (goInt 1) (W.setRow w.heap.size cur1):=fun W hW ty dc=>by
  have h:=jr (P:=P) (w:=W) (sT:=ρ.t 24) (ty:=ty) (dCap:=dc) (o:=i*k) (n:=1) (x:=.slice (some ⟨VB,0,none⟩) 1 vc) (dLen:=n+1-i) (cs:=vcur.toList.take k) (sn:=1) L.t24 hinf (by rw[hW];exact Hz w _) (oq _) rfl (by simp only[Nat.min_def];split <;> omega)
   (by
    rw[hk];have:=lO (P:=P) (w:=W) (B:=VB) (by rw[hW,AT w _ VB hVlt];exact hV) 0 k (by omega) k 1 1 vc (by omega) (Nat.le_refl _)
    rw[List.drop_zero] at this;exact this) (by rw[hvl,hRs];omega) h1v
  rw[hvl,<- hc1] at h;exact h
 obtain⟨FIN,hF⟩:∃ FIN,FIN=(cur.toList.take (i*k)++vcur.toList.take k++mid++Z).toArray:=⟨_,rfl⟩;have hend:(cur1.toList.take ((i+1)*k)++mid++cur1.toList.drop ((n+1)*k)).toArray=FIN:=by
  rw[hF];congr 1
  have e0:ROW.toList.take (i*k)=cur.toList.take (i*k):=by
   rw[hRl,List.append_assoc,List.take_append_of_le_length (by simp;omega),List.take_take,Nat.min_self]
  have e1:cur1.toList.take ((i+1)*k)=cur.toList.take (i*k)++vcur.toList.take k:=by
   rw[hc1,e0];simp only[List.toList_toArray];rw[List.take_append_of_le_length (by simp;omega),List.take_of_length_le (by simp;omega)]
  have e2:cur1.toList.drop ((n+1)*k)=Z:=by
   rw[hc1,e0];simp only[List.toList_toArray];rw[List.drop_append,List.drop_eq_nil_of_le (by simp;omega),List.nil_append,List.drop_drop,hRl,List.drop_append,List.drop_eq_nil_of_le (by simp;omega),List.nil_append]
   have:i*k+k+((n+1)*k-(cur.toList.take (i*k)++vcur.toList.take k).length)-(cur.toList.take (i*k)++Y).length=0:=by simp;omega
   rw[this,List.drop_zero]
  rw[e1,e2]
 have hBB:∀ (W:World),W.heap=((w.alloc (.cells ROW (ρ.t 9))).setRow w.heap.size cur1).heap->∀ ty dc sc,(Builtin.copy_ #[ρ.t 24,ρ.t 24] ty #[.slice (some ⟨w.heap.size,(i+1)*k,none⟩) (n-i) dc,.slice (some ⟨B,i*k,none⟩) (n-i) sc]).run P W =
   .ok (goInt ((n-i:Nat):Int)) (W.setRow w.heap.size FIN):=fun W hW ty dc sc=>by
  rw[vT] at hW;have h:=jr (P:=P) (w:=W) (sT:=ρ.t 24) (ty:=ty) (dCap:=dc) (o:=(i+1)*k) (n:=n-i) (x:=.slice (some ⟨B,i*k,none⟩) (n-i) sc) (dLen:=n-i) (cs:=mid) (sn:=n-i) L.t24 hinf (by rw[hW];exact Hz w _) (oq _) rfl (by simp)
   (by rw[hk,hmid];exact lO (w:=W) (B:=B) (by rw[hW,AT w _ B hBlt];exact hB) _ _ (by omega) _ _ _ _ rfl (Nat.le_refl _)) (by rw[hml,hl1,hRs];omega)
   (fun v hv=>h1c v (by rw[hmid] at hv;rw[<- hnk,List.take_add];exact List.mem_append_right _ hv))
  rw[hml,hnk2,hend] at h;exact h
 rw[<- hG,<- hmid,<- hZ,<- hF];rw[<- hG] at hGn hG63;have hGi:¬ (G=i):=by omega
 have hGim:¬ (G=i+1):=by omega
 have hb1:(0:Int)<=(i:Int)+1:=by omega
 have hin:i<=n:=by omega
 have htn:((i:Int)+1).toNat=i+1:=by omega
 have hb3:(i:Int)<=(n:Int):=by omega
 have hfin:∀ W:World,W=w.drew.drew->(W.alloc (.cells ROW (ρ.t 9))).setRow w.heap.size FIN=W.alloc (.cells FIN (ρ.t 9)):=fun W hW=>by
  have:w.heap.size=W.heap.size:=by rw[hW];rfl
  rw[this];exact vT W _ _ _
 have hfin0:=hfin _ rfl;clear hfin hend hl1 hF hc1 hvl hold hRs hRl hROW hYk hYl hY hZ hml hmid hle2 hle1 hnk2 hnk hik2 hcl hG hik hkk;go_enter f22,Body2.n22_ntmps ρ
 have hni:¬ (n=i):=by omega
 have hA1:=hA ((w.alloc (.cells ROW (ρ.t 9))).drew) rfl;have hB1:=hBB ((((w.alloc (.cells ROW (ρ.t 9))).drew).setRow w.heap.size cur1).drew) rfl;clear hA hBB;go_wp2_with (first
  | (at_builtin;refine Lib.wpList_append_run _ rfl _ _ _ _ rfl _ _ rfl rfl _ _ (hrz _) ?_)
  | (at_builtin;refine wpList_copy_runI _ rfl _ _ (ρ.t 24) (ρ.t 24) rfl _ _ rfl rfl (hA1 _ _) ?_))
 go_region_law_o (refine step_copy_runI rfl _ _ (ρ.t 24) (ρ.t 24) rfl _ _ (by simp[Act.eval,Act.put]) (by simp[Act.eval,Act.put]) (hB1 _ _ _) ?_)
 go_wp2
 go_ret
 refine⟨rfl,?_⟩;show(((w.drew.drew.alloc (.cells ROW (ρ.t 9))).setRow w.heap.size cur1).setRow w.heap.size FIN)=_;rw[setRow_setRow];exact hfin0
end
open Go.Shelf Go.RowKit Go.Lib Go.Proofs
section
variable {P:Program} {mu mu':Mu} {S:St} {TB:Nat->Prop} {w:World} {H:Hp} {ρ:Ren} {k bytes:Nat}
theorem MK {t e ty:TypeId} {i:TypeInfo} {z:Value} (ht:P.underlying t=some (.slice e)) (hinf:P.info? e=some i) (hz:i.zero=some z) (hzs:z.cells.size=i.size) (hsz:0<i.size)
  {b n fz:Nat} {xv:L} {p q:Value} {rows news:List (List D)} (hi:Inv mu S TB w H) (hp:RelL mu S w (.sl b i.size 0 n) p) (hq:RelL mu S w xv q) (hnews:cO H i.size xv=some news) (hb:H[b]?=some (.arr i.size rows fz))
  (hn:n=rows.length) (c3:(rows.length+news.length)*i.bytes<=140737488355328) (c4:rows.length+news.length<=9223372036854775807) (c5:aV i.size news=true) :
  ∃ r w' mu' S',(Builtin.append_ #[t,t] ty #[p,q]).run P w=.ok r w'∧Ext TB mu S w mu' S' w'∧Inv mu' S' TB w' (H.set b .dead++[.arr i.size (rows++news) fz])∧RelL mu' S' w' (.sl H.length i.size 0 (rows.length+news.length)) r:=by
 let o:Oper:={ dst:=some 0,op:=.call { callee:=.builtin .append,args := #[.tmp 0,.tmp 1],argTypes := #[t,t] },type:=ty,pos := "",after := #[],guard:=none }
 let a:Act:=⟨#[p,q],[]⟩
 have hf:RelFr mu S w [.one (.sl b i.size 0 n),.one xv] a:=by
  refine⟨rfl,fun t v ht=>?_⟩
  match t,ht with
  | 0,ht=>cases ht;exact⟨p,rfl,hp⟩
  | 1,ht=>cases ht;exact⟨q,rfl,hq⟩
  | _+2,ht=>cases ht
 have h:=CP (o:=o) (a:=a) (φ:=fun _ _ _=>none) (str:=false) (x:=.tmp 0) (y:=.tmp 1) (x':=.t 0) (y':=.t 1) rfl rfl rfl rfl ht ⟨_,ht⟩ hinf hz hzs hsz rfl rfl hi hf
  (v:=.one (.sl H.length i.size 0 (rows.length+news.length))) (H':=H.set b .dead++[.arr i.size (rows++news) fz])
  (by simp only[A.run,X.ev,List.getElem?_cons_zero,List.getElem?_cons_succ,cond_false,hnews,hb];rw[if_pos ⟨.inl trivial,hn,c3,c4,c5⟩])
 have h2:=h (fun a' w'=>∃ x mu' S',a'.tmps[0]?=some x∧Ext TB mu S w mu' S' w'∧Inv mu' S' TB w' (H.set b .dead++[.arr i.size (rows++news) fz])∧RelL mu' S' w' (.sl H.length i.size 0 (rows.length+news.length)) x) (fun _ _ _=>False)
  (fun x w' mu' S' e i' r=>⟨x,mu',S',rfl,e,i',r⟩)
 unfold Oper.wp at h2;have hx:(execOp a.eval o).run P w=((Builtin.append_ #[t,t] ty #[p,q]).run P w).andThen fun v w'=>.ok (.value v) w':=by
  simp[execOp,o,a,resolve,invoke,builtin,Act.eval]
 rw[hx] at h2;cases hr:(Builtin.append_ #[t,t] ty #[p,q]).run P w with
 | ok r w' =>
  rw[hr] at h2;obtain⟨x,mu',S',e0,e1,e2,e3⟩:=h2;have:x=r:=by cases e0;rfl
  subst this;exact⟨x,w',mu',S',rfl,e1,e2,e3⟩
 | halt h3 w3=>rw[hr] at h2;cases h3 <;> first|exact h2.elim|cases h2
theorem RowsC.flat {sz:Nat} {rows:List (List D)} {cs:List Value} (h:RowsC S w sz rows cs) (hsz:0<sz):∀ u∈cs,Vi.flat u:=by
 intro u hu;obtain⟨j,hj,rfl⟩:=List.getElem_of_mem hu;have hl:=h.len;have hk:j / sz<rows.length:=by rw[Nat.div_lt_iff_lt_mul hsz];omega
 have hrl:=h.row _ (List.getElem_mem hk);have hm:j % sz<(rows[j / sz]).length:=by rw[hrl];exact Nat.mod_lt _ hsz
 obtain⟨u,hu,hru⟩:=h.rel (j / sz) (j % sz) rows[j / sz] (rows[j / sz])[j % sz] (by simp) (by simp)
 rw[Nat.div_add_mod' j sz,List.getElem?_eq_getElem hj] at hu;cases hu;exact(RelL.flat (mu:=fun _=>none) (x:=.d _) hru)
theorem RowsC.take {sz:Nat} {rows:List (List D)} {cs:List Value} (h:RowsC S w sz rows cs) {i:Nat} (hi:i<=rows.length):RowsC S w sz (rows.take i) (cs.take (i*sz)):=by
 have hle:i*sz<=rows.length*sz:=Nat.mul_le_mul_right _ hi;refine⟨by rw[List.length_take,List.length_take,h.len,Nat.min_eq_left hi,Nat.min_eq_left hle],fun r hr=>h.row r (List.mem_of_mem_take hr),fun k j r d h1 h2=>?_⟩
 have hrow:∀ r∈rows.take i,r.length=sz:=fun r hr=>h.row r (List.mem_of_mem_take hr)
 have hx:=mF hrow h1 h2;rw[List.length_take,Nat.min_eq_left hi] at hx;rw[List.getElem?_take,if_pos hx.1] at h1;obtain⟨v,hv,hr⟩:=h.rel k j r d h1 h2;exact⟨v,by rw[List.getElem?_take,if_pos hx.2.2];exact hv,hr⟩
theorem RowsC.drop {sz:Nat} {rows:List (List D)} {cs:List Value} (h:RowsC S w sz rows cs) {i:Nat} (hi:i<=rows.length):RowsC S w sz (rows.drop i) (cs.drop (i*sz)):=by
 refine⟨by rw[List.length_drop,List.length_drop,h.len,Nat.sub_mul],fun r hr=>h.row r (List.mem_of_mem_drop hr),fun k j r d h1 h2=>?_⟩
 rw[List.getElem?_drop] at h1;obtain⟨v,hv,hr⟩:=h.rel _ j r d h1 h2;refine⟨v,?_,hr⟩;rw[List.getElem?_drop,<- hv,Nat.add_mul,Nat.add_assoc]
theorem qI (hi:Inv mu S TB w H) {i sz fz:Nat} {l0:Loc} {rows:List (List D)} (h0:0<sz) (hb:H[i]?=some (.arr sz rows fz)) (hl0:mu i=some l0) (hne:rows≠[]) :
  ∃ B cur e f,l0.blk=some B∧l0.sz=sz∧w.heap[B]?=some (.cells cur e f)∧(cur.size=l0.cap*sz∧Iw f cur.size sz)∧rows.length<=l0.cap∧l0.cap<=maxLen∧0<sz∧RowsC S w sz rows (cur.toList.take (rows.length*sz)) ∧
   ¬ TB B∧(∀ o,S B o->o<fz*sz)∧(∀ o,o<fz*sz->S B o):=by
 obtain⟨rz,hrz,l,B,cur,e,f,m1,m2,m3,m4,m5,m6,hB,⟨m7,moff⟩,m8,m9,m10,hcell,hT,hS,hS'⟩:=ua hi hb hl0 hne;have hrz:sz=rz:=by omega
 subst hrz;rw[hl0] at m1;cases m1;have hpc:rows.length*sz<=l0.cap*sz:=Nat.mul_le_mul_right _ m8;refine⟨B,cur,e,f,m2,m3,hB,⟨m7,moff⟩,m8,m9,m10,⟨by simp;omega,m5,fun k j r d p1 p2=>?_⟩,hT,hS,hS'⟩
 obtain⟨u,hu,hru⟩:=hcell k j r d p1 p2;refine⟨u,?_,hru⟩;rw[List.getElem?_take,if_pos (mF m5 p1 p2).2.2];simpa using hu
theorem OP (L:InsLay P ρ k bytes) (hk1:0<k) {rows:List (List D)} {v:List D} {i fz2:Nat} (hv:v.length=k) (hi0:i<=rows.length) (hb:(rows.length+1)*bytes<=140737488355328) (h63:rows.length+1<=9223372036854775807) :
  CallOK P (ρ.f 22) [.one (.sl 0 k 0 rows.length),.one (.d (.i .i64 i)),.one (.sl 1 k 0 1)] [.arr k rows 0,.arr k [v] fz2] (.one (.sl 2 k 0 (rows.length+1))) [.dead,.arr k [v] fz2,.arr k (rows.take i++v::rows.drop i) 0]:=by
 intro mu S TB w vs hi ha;obtain⟨hl,hrel⟩:=ha;obtain⟨p0,hp,rp⟩:=hrel 0 _ rfl;obtain⟨ix0,hix,rix⟩:=hrel 1 _ rfl;obtain⟨q0,hq,rq⟩:=hrel 2 _ rfl;obtain⟨inf,z,hinf,hz,hzs,hk,hby,hkp⟩:=L.i9;match vs,hl,hp,hix,hq with
 | [p,ix,q],_,hp,hix,hq =>
  simp at hp hix hq;subst hp hix hq;have eix:ix=.int .i64 i:=RelV.i_inv (mu:=mu) (S:=S) (w:=w) rix;subst eix;have rp:RelL mu S w (.sl 0 k 0 rows.length) p:=rp;have rq:RelL mu S w (.sl 1 k 0 1) q:=rq;have rp2:=rp;have rq2:=rq;obtain⟨l,hml,hlz,hle,ad,c,rfl,hsl⟩:=rp;obtain⟨l1,hml1,hlz1,hle1,ad1,c1,rfl,hsl1⟩:=rq;have hb0:([.arr k rows 0,.arr k [v] fz2]:Hp)[0]?=some (.arr k rows 0):=rfl;have hb1:([.arr k rows 0,.arr k [v] fz2]:Hp)[1]?=some (.arr k [v] fz2):=rfl;obtain⟨VB,vcur,vel,fV,hbk1,_,hV,⟨v7,voff⟩,v8,v9,v10,hvold,hTV,_,_⟩:=qI hi (by first|exact hk1|omega) hb1 hml1 (by simp)
  have hfV:fV=(0,0):=voff.2 (by omega)
  subst hfV;rw[hbk1] at hsl1;have had1:=hsl1.1 rfl;subst had1;have hvs:k<=vcur.size:=by rw[v7];have:=Nat.mul_le_mul_right k v8;simpa using this
  have hvold':RowsC S w k [v] (vcur.toList.take k):=by simpa using hvold
  have hnew:(rows.take i++v::rows.drop i).length=rows.length+1:=by simp;omega
  by_cases hend:i=rows.length
  ·obtain⟨r,w1,mu1,S1,hrun,e1,i1,r1⟩:=MK (ty:=ρ.t 24) (xv:=.sl 1 k 0 1) L.t24 hinf hz hzs (by omega) (rows:=rows) (news:=[v]) hi (by rw[hk];exact rp2) rq2 (by rw[hk];simp[cO]) (by rw[hk];exact hb0) rfl (by rw[hby];exact hb) h63 (by rw[hk];simp[aV,hv])
   have hcn:rows.length<=c:=by
    cases hbk:l.blk with
    | none=>rw[hbk] at hsl;omega
    | some B=>rw[hbk] at hsl;exact hsl.2.2.2.2
   have hcm:c<=9223372036854775807:=by
    by_cases h0:rows=[]
    ·subst h0;obtain⟨l',g1,g2,g3,g4,g5,g6⟩:=hi.box 0 _ _ hb0 hml;rw[hml] at g1;cases g1;cases hbk:l.blk with
     | none=>rw[hbk] at hsl;omega
     | some B =>
      rw[hbk] at g6 hsl;obtain⟨_,_,_,_,_,_,k4,_⟩:=g6;have:=hsl.2.2.1;unfold maxLen at k4;omega
    ·obtain⟨B,cur,el,fB,hbk,_,_,_,_,k9,_⟩:=qI hi (by first|exact hk1|omega) hb0 hml h0
     rw[hbk] at hsl;have:=hsl.2.2.1;unfold maxLen at k9;omega
   have hnil:ad=none->c=0:=by
    intro h;cases hbk:l.blk with
    | none=>rw[hbk] at hsl;exact hsl.2.1
    | some B=>rw[hbk] at hsl;have:=hsl.1 rfl;rw[h] at this;cases this
   rw[hend];refine(MA L hcn hcm hnil (fun ty=>hrun)).mono fun e w' he=>?_
   obtain⟨rfl,rfl⟩:=he;refine⟨r,mu1,S1,rfl,e1,?_,?_⟩
   ·rw[hk] at i1;simpa using i1
   ·rw[hk] at r1;exact r1
  ·have hlt:i<rows.length:=by omega
   have hne:rows≠[]:=by intro h;subst h;simp at hlt
   obtain⟨B,cur,el,fB,hbk,_,hB,⟨k7,koff⟩,k8,k9,k10,hold,hT,hS,hS'⟩:=qI hi (by first|exact hk1|omega) hb0 hml hne
   rw[hbk] at hsl;have had:=hsl.1 rfl;subst had;have hcap:c=l.cap:=by have:=hsl.2.2.1;omega
   subst hcap;have hVB:VB≠B:=fun h=>hi.one 0 1 _ _ l l1 B (by decide) hb0 hb1 rfl rfl hml hml1 hbk (by rw[hbk1,h])
   have h1c:∀ u∈cur.toList.take (rows.length*k),u.oneCell'=true:=fun u hu=>(hold.flat k10 u hu).one
   have h1v:∀ u∈vcur.toList.take k,u.oneCell'=true:=fun u hu=>(hvold'.flat k10 u hu).one
   have hik:i*k<=rows.length*k:=Nat.mul_le_mul_right _ hi0;have hn1:(rows.length+1)*k=rows.length*k+k:=by rw[Nat.add_mul,Nat.one_mul]
   have hpc:rows.length*k<=l.cap*k:=Nat.mul_le_mul_right _ k8;have hdt:(cur.toList.take (rows.length*k)).drop (i*k)=(cur.toList.drop (i*k)).take ((rows.length-i)*k):=by
    rw[List.drop_take,Nat.sub_mul]
   have hall:RowsC S w k (rows.take i++v::rows.drop i) (cur.toList.take (i*k)++vcur.toList.take k++(cur.toList.drop (i*k)).take ((rows.length-i)*k)):=by
    have a1:=hold.take hi0;rw[List.take_take,Nat.min_eq_left hik] at a1;have a2:=hold.drop hi0;rw[hdt] at a2;have a3:=(a1.append hvold').append a2;simpa[List.append_assoc] using a3
   obtain⟨CS,hCS⟩:∃ CS,CS=cur.toList.take (i*k)++vcur.toList.take k++(cur.toList.drop (i*k)).take ((rows.length-i)*k):=⟨_,rfl⟩;rw[<- hCS] at hall;by_cases hroom:rows.length+1<=l.cap
   ·refine(HA L hlt hroom (by unfold maxLen at k9;exact k9) hVB hB koff.1 k7 hV hvs h1c h1v).mono fun e w' he=>?_
    rw[<- hCS] at he;obtain⟨rfl,rfl⟩:=he;have hCl:=hall.len;rw[hnew] at hCl;have hcl:cur.toList.length=l.cap*k:=by simpa using k7
    have hle2:(rows.length+1)*k<=l.cap*k:=Nat.mul_le_mul_right _ hroom;have hB':w.drew.heap[B]?=some (.cells cur el fB):=hB;obtain⟨FIN,hF⟩:∃ FIN,FIN=(CS++cur.toList.drop ((rows.length+1)*k)).toArray:=⟨_,rfl⟩;have hFl:FIN.size=l.cap*k:=by rw[hF,List.size_toArray,List.length_append,hCl,List.length_drop,hcl];omega
    rw[<- hF];have hext0:Ext TB mu S w.drew mu S (w.drew.setRow B FIN):=jL (hi.drew) hB' hT fun q hq=>by have:=hS q hq;simp at this
    let l2:Loc:=⟨some B,k,rows.length+1,l.cap⟩
    have hext:Ext TB mu S w.drew (cK mu 2 l2) S (w.drew.setRow B FIN):=⟨iD hi.drew l2,hext0.ss,hext0.avoid,hext0.cell,hext0.blk,hext0.size,hext0.os,hext0.tape,hext0.output⟩;have hbox:RelB (cK mu 2 l2) S TB (w.drew.setRow B FIN) 2 (.arr k (rows.take i++v::rows.drop i) 0):=by
     refine⟨l2,bK _ _ _,.inl rfl,by rw[hnew],hall.row,Nat.zero_le _,?_⟩
     refine⟨FIN,el,fB,setRow_heap w.drew B cur FIN el fB hB',⟨hFl,by rw[hFl,<- k7];exact koff⟩,by rw[hnew];exact hroom,k9,k10,fun q j r d p1 p2=>?_,hT,hS,hS'⟩
     obtain⟨u,hu,hru⟩:=hall.rel q j r d p1 p2;refine⟨u,?_,hru.ext ((dQ mu S TB w).trans hext)⟩;rw[hF,List.getElem?_toArray,List.getElem?_append_left (by rw[hall.len];exact(mF hall.row p1 p2).2.2)]
     exact hu
    have hreg:=(hi.drew).regrow hb0 rfl hml hbk (l2:=l2) rfl hext (fun q hq=>setRow_other w.drew B q FIN hq) (iN B FIN) hbox
    exact⟨_,cK mu 2 l2,S,rfl,(dQ mu S TB w).trans hext,hreg,l2,bK _ _ _,rfl,by simp[l2],_,_,rfl,fun _=>rfl,fun _=>by simp,rfl,⟨_,rfl⟩,hroom⟩
   ·have hcn:l.cap=rows.length:=by omega
    rw[hcn] at k7 k9 hsl ⊢;refine(I4 L hinf hz hzs hk hby hkp hlt h63 hb hB k7 hV hvs h1c h1v).mono fun e w' he=>?_
    rw[<- hCS] at he;obtain⟨rfl,rfl⟩:=he;have hge:=grownCap_ge w (rows.length+1) rows.length (ρ.t 9);have hgm:=grownCap_le_maxLen w (rows.length+1) rows.length (ρ.t 9) (by unfold maxLen;omega)
    have hzl:(Builtin.zeroCells z.cells (grownCap w (rows.length+1) rows.length (ρ.t 9)-(rows.length+1))).toList.length=(grownCap w (rows.length+1) rows.length (ρ.t 9)-(rows.length+1))*k:=by simp only[Array.length_toList,size_zeroCells,hzs,hk]
    generalize grownCap w (rows.length+1) rows.length (ρ.t 9)=G at *;generalize (Builtin.zeroCells z.cells (G-(rows.length+1))).toList=Z at *;have hall2:=hall.ext ((dQ mu S TB w).trans (dQ mu S TB w.drew));have hpre:((CS++Z).toArray).toList.take CS.length=CS:=by rw[List.toList_toArray];exact List.take_left
    obtain⟨mu1,S1,e1,i1,r1⟩:=((hi.kill 0).drew.drew).new_arr (rows.take i++v::rows.drop i) 0 CS (CS++Z).toArray (ρ.t 9) (cap:=G) hpre hall2
     (by rw[List.size_toArray,List.length_append,hall.len,hnew,hzl,<- Nat.add_mul];congr 1;omega) (by omega) hgm k10 (Nat.zero_le _)
    refine⟨_,mu1,S1,rfl,(((dQ mu S TB w).trans (dQ mu S TB w.drew)).trans e1),i1,?_⟩;have r2:=r1;rw[hnew] at r2;exact r2
end
open Go.Shelf Go.RowKit Go.Lib Go.Proofs
structure DelLay (P:Program) (ρ:Ren) (k:Nat) (zr:List D):Prop where
 mixed:P.follows .mixedOrders=true
 f24:∃ nm,P.funcs[ρ.f 24]?=some { Body2.n24 ρ with name:=nm }
 t0:P.underlying (ρ.t 0)=some (TypeDesc.tuple #[])
 a0:∀ w,(isAgg (ρ.t 0)).run P w=.ok false w
 z0:∀ w,(Go.sizeOf (ρ.t 0)).run P w=.ok 1 w
 v0:∀ w,(zeroValue (ρ.t 0)).run P w=.ok (Value.tuple #[]) w
 t3:P.underlying (ρ.t 3)=some (TypeDesc.int IntKind.i64)
 a3:∀ w,(isAgg (ρ.t 3)).run P w=.ok false w
 z3:∀ w,(Go.sizeOf (ρ.t 3)).run P w=.ok 1 w
 v3:∀ w,(zeroValue (ρ.t 3)).run P w=.ok (Value.int IntKind.i64 0) w
 t4:P.underlying (ρ.t 4)=some (TypeDesc.bool)
 a4:∀ w,(isAgg (ρ.t 4)).run P w=.ok false w
 z4:∀ w,(Go.sizeOf (ρ.t 4)).run P w=.ok 1 w
 v4:∀ w,(zeroValue (ρ.t 4)).run P w=.ok (Value.bool false) w
 t24:P.underlying (ρ.t 24)=some (TypeDesc.slice (ρ.t 9))
 a24:∀ w,(isAgg (ρ.t 24)).run P w=.ok false w
 z24:∀ w,(Go.sizeOf (ρ.t 24)).run P w=.ok 1 w
 v24:∀ w,(zeroValue (ρ.t 24)).run P w=.ok (Value.slice none 0 0) w
 j9:(P.info? (ρ.t 9)).map (fun i=>(i.size,i.zero.map fun z=>z.cells.size,i.zero.bind fun z=>constDs z.cells.toList))=some (k,some k,some zr)
 kp:0<k
 z9:∀ w,(Go.sizeOf (ρ.t 9)).run P w=.ok k w
theorem DelLay.i9 {P:Program} {ρ:Ren} {k:Nat} {zr:List D} (L:DelLay P ρ k zr):∃ inf z,P.info? (ρ.t 9)=some inf∧inf.zero=some z∧z.cells.size=inf.size∧inf.size=k∧0<k∧constDs z.cells.toList=some zr:=by
 obtain⟨inf,h1,h2⟩:=Option.map_eq_some_iff.1 L.j9;simp only[Prod.mk.injEq] at h2;obtain⟨h3,h5,h8⟩:=h2;obtain⟨z,h6,h7⟩:=Option.map_eq_some_iff.1 h5;rw[h6] at h8;exact⟨inf,z,h1,h6,h7.trans h3.symm,h3,L.kp,h8⟩
section
variable {P:Program} {ρ:Ren} {k:Nat} {zr:List D} {w:World}
theorem step_app_runI {ops:Array Oper} {o:Oper} {a:Act} {w:World} {K:Act->World->Prop} {Q:Exit->Act->World->Prop} {E:Prop}
  (hg:o.guard=none) (d x:Operand) (dT sT:TypeId) (hop:o.op=Op.call { callee:=Callee.builtin Builtin.append,args := #[d,x],argTypes := #[dT,sT] })
  (v u:Value) (hd:a.eval d=v) (hx:a.eval x=u) {v':Value} {w':World} (hr:(Builtin.append_ #[dT,sT] o.type #[v,u]).run P w=.ok v' w') (hK:K (a.put o.dst v') w') :
  if Region.wanted o (yielded ops a.tmps)=true then Oper.wp P o a w K Q else E:=by
 have hw:Region.wanted o (yielded ops a.tmps)=true:=by simp[Region.wanted,hg]
 rw[if_pos hw];unfold Oper.wp;simp[execOp,hop,resolve,invoke,builtin,hd,hx,hr,Result.andThen];exact hK
theorem wpList_clear_runI (w:World) {ops:Array Oper} {rest:List Oper} {o:Oper} {a:Act} {Q:Exit->Act->World->Prop} (hgd:o.guard=none) (d:Operand) (t:TypeId)
  (ho:o.op=.call { callee:=.builtin .clear,args := #[d],argTypes := #[t] }) (v:Value) (hd:a.eval d=v) {v':Value} {w':World}
  (hr:(Builtin.clear_ #[t] o.type #[v]).run P w=.ok v' w') (h:wpList P ops Q rest (a.put o.dst v') w'):wpList P ops Q (o::rest) a w :=
 wpList_plain hgd fun _ hK=>by
  unfold Oper.wp execOp;simp only[ho,resolve,invoke,builtin,Sem.run_bind,Sem.run_pure,Result.andThen_ok,List.map_toArray,List.map_cons,List.map_nil,hd,hr];exact hK _ _ h
theorem wz (zs:Array Value):Builtin.zeroCells zs 1=zs:=by
 apply Array.ext
 ·simp[Builtin.zeroCells]
 ·intro i h1 h2;simp only[Builtin.zeroCells,Array.getElem_map,Array.getElem_range,Nat.mod_eq_of_lt h2];exact getElem!_pos zs i h2
theorem ws {t ty e:TypeId} {i:TypeInfo} {z:Value} (ht:P.underlying t=some (.slice e)) (hinf:P.info? e=some i) (hz:i.zero=some z) {B o cc:Nat} {cur:Array Value} {el:TypeId} {f:Nat × Nat}
  (hg:w.heap[B]?=some (.cells cur el f)) (hof:zj f cur.size) (hfit:o+z.cells.size<=cur.size) (h1:∀ v∈z.cells.toList,v.oneCell'=true) :
  (Builtin.clear_ #[t] ty #[.slice (some ⟨B,o,none⟩) 1 cc]).run P w=.ok (.tuple #[]) (w.setRow B (cur.toList.take o++z.cells.toList++cur.toList.drop (o+z.cells.size)).toArray):=by
 have hst:=dC (P:=P) B o el f z.cells.toList 0 cur w hg hof (by simpa using hfit) h1
 simp only[Nat.add_zero,Array.length_toList] at hst;simp[Builtin.clear_,run_underlying ht,zeroValue,typeInfo,hinf,hz,wz,hst]
theorem Lz (L:DelLay P ρ k zr) {B n c i:Nat} {cur:Array Value} {el:TypeId} {fB:Nat × Nat} {inf:TypeInfo} {z:Value} (hinf:P.info? (ρ.t 9)=some inf) (hz:inf.zero=some z) (hzs:z.cells.size=inf.size) (hk:inf.size=k) (hkp:0<k) (h1z:∀ v∈z.cells.toList,v.oneCell'=true)
  (hi:i<n) (hnc:n<=c) (hc63:c<=9223372036854775807)
  (hB:w.heap[B]?=some (.cells cur el fB)) (hoB:zj fB cur.size) (hsz:cur.size=c*k) (h1c:∀ v∈cur.toList.take (n*k),flat v) :
  Calls P (ρ.f 24) #[.slice (some ⟨B,0,none⟩) n c,.int .i64 i,.int .i64 ((i:Int)+1)] w fun e w' =>
   e=.returned (.slice (some ⟨B,0,none⟩) (n-1) c)∧w'=w.drew.setRow B (cur.toList.take (i*k)++(cur.toList.drop ((i+1)*k)).take ((n-(i+1))*k)++z.cells.toList++cur.toList.drop (n*k)).toArray:=by
 have t0:=L.t0;have a0:=L.a0;have z0:=L.z0;have v0:=L.v0;have t3:=L.t3;have a3:=L.a3;have z3:=L.z3;have v3:=L.v3;have t4:=L.t4;have a4:=L.a4;have z4:=L.z4;have v4:=L.v4;have z9:=L.z9;have t24:=L.t24;have a24:=L.a24;have z24:=L.z24;have v24:=L.v24;obtain⟨nm,f24⟩:=L.f24;have mixed:=L.mixed;have hcl:cur.toList.length=c*k:=by simpa using hsz
 have hle1:n*k<=c*k:=Nat.mul_le_mul_right _ hnc;have e1:i*k+k=(i+1)*k:=by rw[Nat.add_mul,Nat.one_mul]
 have e2:(i+1)*k+(n-(i+1))*k=n*k:=by rw[<- Nat.add_mul];congr 1;omega
 have e3:i*k+(n-(i+1))*k=(n-1)*k:=by rw[<- Nat.add_mul];congr 1;omega
 have e4:(n-1)*k+k=n*k:=by rw[<- Nat.succ_mul];congr 1;omega
 obtain⟨mid,hmid⟩:∃ mid,mid=(cur.toList.drop ((i+1)*k)).take ((n-(i+1))*k):=⟨_,rfl⟩;have hml:mid.length=(n-(i+1))*k:=by rw[hmid];simp;omega
 have h1m:∀ v∈mid,flat v:=fun v hv=>h1c v (by
  rw[hmid] at hv;rw[<- e2,List.take_add];exact List.mem_append_right _ hv)
 obtain⟨A,hA,hsrc⟩:∃ A:Addr,(if c=i+1 then some (⟨B,0,none⟩:Addr) else some ⟨B,(i+1)*k,none⟩)=some A∧∀ (W:World) (cc:Nat),W.heap=w.heap->(Builtin.firstCells inf.size (n-(i+1)) (.slice (some A) (n-(i+1)) cc)).run P W=.ok mid.toArray W:=by
  by_cases h:c=i+1
  ·refine⟨⟨B,0,none⟩,by simp[h],fun W cc hW=>?_⟩
   have h0:n-(i+1)=0:=by omega
   have h2:mid=[]:=List.length_eq_zero_iff.1 (by rw[hml,h0,Nat.zero_mul])
   rw[h0,h2];simp[Builtin.firstCells,loadCells,loadCellsFrom]
  ·refine⟨⟨B,(i+1)*k,none⟩,by simp[h],fun W cc hW=>?_⟩
   rw[hk,hmid];exact lO (P:=P) (w:=W) (B:=B) (by rw[hW];exact hB) _ _ (by omega) _ _ _ _ rfl (Nat.le_refl _)
 obtain⟨cur1,hc1⟩:∃ cur1,cur1=(cur.toList.take (i*k)++mid++cur.toList.drop ((n-1)*k)).toArray:=⟨_,rfl⟩;have hl1:cur1.size=c*k:=by rw[hc1];simp;omega
 have hap:∀ ty cc,(Builtin.append_ #[ρ.t 24,ρ.t 24] ty #[.slice (some ⟨B,0,none⟩) i c,.slice (some A) (n-(i+1)) cc]).run P w.drew=.ok (.slice (some ⟨B,0,none⟩) (i+(n-(i+1))) c) (w.drew.setRow B cur1):=fun ty cc=>by
  have hs:Src P w.drew inf.size (ρ.t 24) (.slice (some A) (n-(i+1)) cc) (n-(i+1)) mid :=
   ⟨.inl ⟨_,L.t24⟩,fun w=>rfl,hsrc _ _ rfl,hsrc _ _ rfl,by rw[hk];exact hml,h1m⟩
  have h:=pQ (P:=P) (w:=w.drew) (ty:=ty) (sLen:=i) (sCap:=c) (el:=el) (cur:=cur) (B:=B) L.t24 hinf hs hB hoB (by omega) (by rw[hk,hml,hsz];omega)
  rw[hk,hml,e3,<- hc1] at h;exact h
 have hB1:(w.drew.setRow B cur1).heap[B]?=some (.cells cur1 el fB):=setRow_heap w.drew B cur cur1 el fB hB;obtain⟨FIN,hF⟩:∃ FIN,FIN=(cur.toList.take (i*k)++mid++z.cells.toList++cur.toList.drop (n*k)).toArray:=⟨_,rfl⟩;have hin:i+(n-(i+1))=n-1:=by omega
 have hcr:∀ ty cc,(Builtin.clear_ #[ρ.t 24] ty #[.slice (some ⟨B,(n-1)*k,none⟩) 1 cc]).run P (w.drew.setRow B cur1)=.ok (.tuple #[]) (w.drew.setRow B FIN):=fun ty cc=>by
  have h:=ws (P:=P) (w:=w.drew.setRow B cur1) (ty:=ty) (cc:=cc) (o:=(n-1)*k) L.t24 hinf hz hB1 (by rw[hl1,<- hsz];exact hoB) (by rw[hzs,hk,hl1];omega) h1z
  rw[setRow_setRow] at h;have:(cur1.toList.take ((n-1)*k)++z.cells.toList++cur1.toList.drop ((n-1)*k+z.cells.size)).toArray=FIN:=by
   rw[hF];congr 1
   have f1:cur1.toList.take ((n-1)*k)=cur.toList.take (i*k)++mid:=by
    rw[hc1];simp only[List.toList_toArray];rw[List.take_append_of_le_length (by simp;omega),List.take_of_length_le (by simp;omega)]
   have f2:cur1.toList.drop ((n-1)*k+z.cells.size)=cur.toList.drop (n*k):=by
    rw[hc1,hzs,hk,e4];simp only[List.toList_toArray];rw[List.drop_append,List.drop_eq_nil_of_le (by simp;omega),List.nil_append,List.drop_drop]
    congr 1
    simp;omega
   rw[f1,f2]
  rw[this] at h;exact h
 rw[<- hmid,<- hF];rw[hin] at hap;have hw1:¬ ((i:Int)=(i:Int)+1):=by omega
 have htn:((i:Int)+1).toNat=i+1:=by omega
 have hb1:(0:Int)<=(i:Int)+1:=by omega
 have hb2:(i:Int)+1<=(n:Int):=by omega
 have hb3:¬ (c=n-1):=by omega
 have hb4:n-(n-1)=1:=by omega
 have hin2:i+1<=c:=by omega
 have hin3:i<=c:=by omega
 clear hF hB1 hl1 hc1 hsrc h1m hml hmid e4 e3 e2 e1 hle1 hcl h1z h1c;go_enter f24,Body2.n24_ntmps ρ
 go_wp2_with fail
 go_region_law_o (refine step_app_runI rfl _ _ (ρ.t 24) (ρ.t 24) rfl (.slice (some ⟨B,0,none⟩) i c) (.slice (some A) (n-(i+1)) (c-(i+1))) (by simp[Act.eval,Act.put]) (by simp[Act.eval,Act.put]) (hap _ _) ?_)
 go_wp2_with (at_builtin;refine wpList_clear_runI _ rfl _ (ρ.t 24) rfl _ rfl (hcr _ _) ?_)
 go_ret
 exact⟨rfl,rfl⟩
variable {mu:Mu} {S:St} {TB:Nat->Prop}
theorem xG {l:List Value} {zr:List D} (h:constDs l=some zr):∀ v∈l,v.oneCell'=true:=by
 intro v hv;obtain⟨j,hj,rfl⟩:=List.getElem_of_mem hv;obtain⟨e,hr⟩:=jC (S:=fun _ _=>False) (w:=(default:World)) h
 obtain⟨x,hx,hrx⟩:=hr j (zr[j]'(by omega)) (by simp)
 rw[List.getElem?_eq_getElem hj] at hx;cases hx;exact(RelL.flat (mu:=fun _=>none) (x:=.d _) hrx).one
theorem Qw (L:DelLay P ρ k zr) {rows:List (List D)} {i:Nat} (hi0:i<rows.length) (h63:rows.length<=9223372036854775807) :
  CallOK P (ρ.f 24) [.one (.sl 0 k 0 rows.length),.one (.d (.i .i64 i)),.one (.d (.i .i64 ((i:Int)+1)))] [.arr k rows 0] (.one (.sl 1 k 0 (rows.length-1))) [.dead,.arr k (rows.take i++rows.drop (i+1)) 0]:=by
 intro mu S TB w vs hi ha;obtain⟨hl,hrel⟩:=ha;obtain⟨p0,hp,rp⟩:=hrel 0 _ rfl;obtain⟨ix0,hix,rix⟩:=hrel 1 _ rfl;obtain⟨q0,hq,rq⟩:=hrel 2 _ rfl;obtain⟨inf,z,hinf,hz,hzs,hk,hkp,hzr⟩:=L.i9;match vs,hl,hp,hix,hq with
 | [p,ix,q],_,hp,hix,hq =>
  simp at hp hix hq;subst hp hix hq;have eix:ix=.int .i64 i:=RelV.i_inv (mu:=mu) (S:=S) (w:=w) rix;subst eix;have eq:q=.int .i64 ((i:Int)+1):=RelV.i_inv (mu:=mu) (S:=S) (w:=w) rq;subst eq;have rp:RelL mu S w (.sl 0 k 0 rows.length) p:=rp;obtain⟨l,hml,hlz,hle,ad,c,rfl,hsl⟩:=rp;have hb0:([.arr k rows 0]:Hp)[0]?=some (.arr k rows 0):=rfl;have hne:rows≠[]:=by intro h;subst h;simp at hi0
  obtain⟨B,cur,el,fB,hbk,_,hB,⟨k7,koff⟩,k8,k9,k10,hold,hT,hS,hS'⟩:=qI hi (by first|exact L.kp|omega) hb0 hml hne
  rw[hbk] at hsl;have had:=hsl.1 rfl;subst had;have hcap:c=l.cap:=by have:=hsl.2.2.1;omega
  subst hcap;have hpc:rows.length*k<=l.cap*k:=Nat.mul_le_mul_right _ k8;have hik:i*k<=rows.length*k:=Nat.mul_le_mul_right _ (by omega)
  have hcl:cur.toList.length=l.cap*k:=by simpa using k7
  have hnew:(rows.take i++rows.drop (i+1)).length=rows.length-1:=by simp;omega
  have hall:RowsC S w k (rows.take i++rows.drop (i+1)) (cur.toList.take (i*k)++(cur.toList.drop ((i+1)*k)).take ((rows.length-(i+1))*k)):=by
   have a1:=hold.take (i:=i) (by omega)
   rw[List.take_take,Nat.min_eq_left hik] at a1;have a2:=hold.drop (i:=i+1) (by omega)
   rw[List.drop_take,<- Nat.sub_mul] at a2;exact a1.append a2
  obtain⟨CS,hCS⟩:∃ CS,CS=cur.toList.take (i*k)++(cur.toList.drop ((i+1)*k)).take ((rows.length-(i+1))*k):=⟨_,rfl⟩;refine(Lz L hinf hz hzs hk hkp (xG hzr) hi0 k8 (by unfold maxLen at k9;exact k9) hB koff.1 k7 (hold.flat k10)).mono fun e w' he=>?_
  rw[<- hCS] at hall he;obtain⟨rfl,rfl⟩:=he;have hCl:=hall.len;rw[hnew] at hCl;have e4:(rows.length-1)*k+k=rows.length*k:=by rw[<- Nat.succ_mul];congr 1;omega
  have hB':w.drew.heap[B]?=some (.cells cur el fB):=hB;obtain⟨FIN,hF⟩:∃ FIN,FIN=(CS++z.cells.toList++cur.toList.drop (rows.length*k)).toArray:=⟨_,rfl⟩;have hFl:FIN.size=l.cap*k:=by rw[hF,List.size_toArray,List.length_append,List.length_append,hCl,List.length_drop,hcl,show z.cells.toList.length=k by rw[Array.length_toList,hzs,hk]];omega
  rw[<- hF];have hext0:Ext TB mu S w.drew mu S (w.drew.setRow B FIN):=jL (hi.drew) hB' hT fun q hq=>by have:=hS q hq;simp at this
  let l2:Loc:=⟨some B,k,rows.length-1,l.cap⟩
  have hext:Ext TB mu S w.drew (cK mu 1 l2) S (w.drew.setRow B FIN):=⟨iD hi.drew l2,hext0.ss,hext0.avoid,hext0.cell,hext0.blk,hext0.size,hext0.os,hext0.tape,hext0.output⟩;have hbox:RelB (cK mu 1 l2) S TB (w.drew.setRow B FIN) 1 (.arr k (rows.take i++rows.drop (i+1)) 0):=by
   refine⟨l2,bK _ _ _,.inl rfl,by rw[hnew],hall.row,Nat.zero_le _,?_⟩
   refine⟨FIN,el,fB,setRow_heap w.drew B cur FIN el fB hB',⟨hFl,by rw[hFl,<- k7];exact koff⟩,by rw[hnew];show rows.length-1<=l.cap;omega,k9,k10,fun q j r d p1 p2=>?_,hT,hS,hS'⟩
   obtain⟨u,hu,hru⟩:=hall.rel q j r d p1 p2;refine⟨u,?_,hru.ext ((dQ mu S TB w).trans hext)⟩;rw[hF,List.getElem?_toArray,List.append_assoc,List.getElem?_append_left (by rw[hall.len];exact(mF hall.row p1 p2).2.2)]
   exact hu
  have hreg:=(hi.drew).regrow hb0 rfl hml hbk (l2:=l2) rfl hext (fun q hq=>setRow_other w.drew B q FIN hq) (iN B FIN) hbox
  exact⟨_,cK mu 1 l2,S,rfl,(dQ mu S TB w).trans hext,hreg,l2,bK _ _ _,rfl,by simp[l2],_,_,rfl,fun _=>rfl,fun _=>by simp,rfl,⟨_,rfl⟩,by omega⟩
end
open Go.Shelf Go.Proofs
def vu (l:List (Nat × Nat × Nat)):cI:=fun f args H=>match l.lookup f,args,H with
 | some (k,bytes),[.one (.sl 0 z 0 n),.one (.d (.i .i64 i)),.one (.sl 1 z' 0 1)],[.arr z1 rows fz,.arr z2 [v] fz2] =>
  if z=k∧z'=k∧z1=k∧z2=k∧n=rows.length∧fz=0∧v.length=k∧0<=i∧i<=(rows.length:Int)∧(rows.length+1)*bytes<=140737488355328∧rows.length+1<=9223372036854775807 then
   some (.one (.sl 2 k 0 (rows.length+1)),[.dead,.arr k [v] fz2,.arr k (rows.take i.toNat++v::rows.drop i.toNat) 0]) else none
 | _,_,_=>none
def AU (l:List (Nat × Nat)):cI:=fun f args H=>match l.lookup f,args,H with
 | some k,[.one (.sl 0 z 0 n),.one (.d (.i .i64 i)),.one (.d (.i .i64 j))],[.arr z1 rows fz] =>
  if z=k∧z1=k∧n=rows.length∧fz=0∧0<=i∧i<(rows.length:Int)∧j=i+1∧rows.length<=9223372036854775807 then
   some (.one (.sl 1 k 0 (rows.length-1)),[.dead,.arr k (rows.take i.toNat++rows.drop (i.toNat+1)) 0]) else none
 | _,_,_=>none
structure Lib where
 clones:List (Nat × Nat × Nat)
 inss:List (Nat × Nat × Nat)
 dels:List (Nat × Nat)
def mQ (l:Lib):cI:=fun f args H=>match vu l.inss f args H with
 | some r=>some r
 | none=>match AU l.dels f args H with
  | some r=>some r
  | none=>nZ l.clones f args H
theorem sV {α:Type} {l:List (Nat × α)} {f:Nat} {x:α} (h:l.lookup f=some x):(f,x)∈l:=by
 induction l with
 | nil=>cases h
 | cons c r ih =>
  obtain⟨k,y⟩:=c;simp only[List.lookup] at h;split at h
  ·rename_i e;cases h;rw[eq_of_beq e];exact List.mem_cons_self ..
  ·exact List.mem_cons_of_mem _ (ih h)
structure Lib.Ok (P:Program) (l:Lib):Prop where
 clones:∀ f sz bytes,(f,sz,bytes)∈l.clones->0<sz∧∃ an,compS P f an=some (cloneAF sz bytes)
 inss:∀ f k bytes,(f,k,bytes)∈l.inss->callable P f=true∧0<k∧∃ ρ:Ren,ρ.f 22=f∧InsLay P ρ k bytes
 dels:∀ f k,(f,k)∈l.dels->callable P f=true∧∃ (ρ:Ren) (zr:List D),ρ.f 24=f∧DelLay P ρ k zr
theorem CJ {P:Program} (hd:∀ φ,Good P φ->iv P φ) (l:Lib) (h:l.Ok P):Good P (mQ l):=by
 have hc:=yZ hd l.clones h.clones;have key:∀ f args H r H',mQ l f args H=some (r,H')->CallOK P f args H r H'∧callable P f=true:=by
  intro f args H r H' hl;unfold mQ at hl;split at hl
  ·rename_i q hi;cases hl;unfold vu at hi;split at hi
   ·rename_i k bytes z n i z' z1 rows fz z2 v fz2 hlk;split at hi
    ·rename_i hcond;obtain⟨rfl,rfl,rfl,rfl,rfl,rfl,c7,c8,c9,c10,c11⟩:=hcond;cases hi;obtain⟨hcl,hk,ρ,rfl,L⟩:=h.inss f _ _ (sV hlk);have:=OP L hk (rows:=rows) (v:=v) (i:=i.toNat) (fz2:=fz2) c7 (by omega) c10 c11
     rw[Int.toNat_of_nonneg c8] at this;exact⟨this,hcl⟩
    ·cases hi
   ·cases hi
  ·rename_i hnone;clear hnone;split at hl
   ·rename_i q hi;cases hl;unfold AU at hi;split at hi
    ·rename_i k z n i j z1 rows fz hlk;split at hi
     ·rename_i hcond;obtain⟨rfl,rfl,rfl,rfl,c5,c6,rfl,c8⟩:=hcond;cases hi;obtain⟨hcl,ρ,zr,rfl,L⟩:=h.dels f _ (sV hlk);have:=Qw L (rows:=rows) (i:=i.toNat) (by omega) c8
      rw[Int.toNat_of_nonneg c5] at this;exact⟨this,hcl⟩
     ·cases hi
    ·cases hi
   ·exact⟨hc.ok _ _ _ _ _ hl,hc.can _ _ _ _ _ hl⟩
 exact⟨fun f args H r H' hc=>(key f args H r H' hc).1,fun f args H r H' hc=>(key f args H r H' hc).2⟩
theorem BX {l:Lib} {f:Nat} (h1:l.inss.lookup f=none) (h2:l.dels.lookup f=none) (args:List V) (H:Hp):mQ l f args H=nZ l.clones f args H:=by
 have e1:vu l.inss f args H=none:=by unfold vu;rw[h1]
 have e2:AU l.dels f args H=none:=by unfold AU;rw[h2]
 simp only[mQ,e1,e2]
theorem nb {P:Program} {an:FuncId->Ann} {l:Lib} {f:FuncId} {sz bytes:Nat} (ho:(an f).out=true) (hi:l.inss.lookup f=none) (hd:l.dels.lookup f=none) (hl:l.clones.lookup f=some (sz,bytes)) (rows:List (List D)) (h1:aV sz rows=true) (h2:rows.length*bytes<=140737488355328) (h3:rows.length<=9223372036854775807) (H:Hp) :
  ak (eB (dG P an) (mQ l)) f [.one (.d (.l rows))] H=some (.one (.sl (H.length+1) sz 0 rows.length),H++[.dead,.arr sz rows 0]):=by
 have hr:eB (dG P an) (mQ l) f [.one (.d (.l rows))] []=some (.one (.sl 1 sz 0 rows.length),[.dead,.arr sz rows 0]) :=
  vJ (oV ho) (by rw[BX hi hd];simp[nZ,hl,h1,h2,h3])
 rw[AW rfl hr];rfl
theorem D4 {P:Program} {an:FuncId->Ann} {l:Lib} {f:FuncId} {k:Nat} (ho:(an f).out=true) (hi:l.inss.lookup f=none) (hd:l.dels.lookup f=some k) (rows:List (List D)) (i:Nat) (h1:i<rows.length) (h3:rows.length<=9223372036854775807) :
  eB (dG P an) (mQ l) f [.one (.sl 0 k 0 rows.length),.one (.d (.i .i64 i)),.one (.d (.i .i64 ((i:Int)+1)))] [.arr k rows 0]=some (.one (.sl 1 k 0 (rows.length-1)),[.dead,.arr k (rows.take i++rows.drop (i+1)) 0]) :=
 vJ (oV ho) (by
  have e1:∀ args H,vu l.inss f args H=none:=fun args H=>by unfold vu;rw[hi]
  simp only[mQ,e1,AU,hd];rw[if_pos ⟨trivial,trivial,trivial,trivial,by omega,by omega,trivial,h3⟩]
  simp)
theorem yA {P:Program} {an:FuncId->Ann} {l:Lib} {f:FuncId} {k bytes:Nat} (ho:(an f).out=true) (hi:l.inss.lookup f=some (k,bytes)) (rows:List (List D)) (v:List D) (i fz2:Nat) (hv:v.length=k) (h1:i<=rows.length) (h2:(rows.length+1)*bytes<=140737488355328) (h3:rows.length+1<=9223372036854775807) :
  eB (dG P an) (mQ l) f [.one (.sl 0 k 0 rows.length),.one (.d (.i .i64 i)),.one (.sl 1 k 0 1)] [.arr k rows 0,.arr k [v] fz2]=some (.one (.sl 2 k 0 (rows.length+1)),[.dead,.arr k [v] fz2,.arr k (rows.take i++v::rows.drop i) 0]) :=
 vJ (oV ho) (by
  simp only[mQ,vu,hi];rw[if_pos ⟨trivial,trivial,trivial,trivial,trivial,trivial,hv,by omega,by omega,h2,h3⟩]
  simp)
attribute [go_sem] UI P1 Qm kO cO ow QA DH gU rg rd o oz kc kb ks kx on og od T4 A.run G0 i7 mW HN uH V.cs dy pj v6 oU f7 dK V.data L.data Om nc List.take_succ_cons List.take_zero List.drop_succ_cons List.drop_zero List.cons_append ne_eq
attribute [go_sem ↓] ui sf
def wt:List L->Option (List D)
 | []=>some []
 | .d x::r=>match wt r with|some t=>some (x::t)|none=>none
 | _=>none
def jV:List L->Option (List D × (Nat × Nat × Nat × Nat) × List D)
 | .d x::r=>match jV r with|some (p,q,t)=>some (x::p,q,t)|none=>none
 | .sl b z o n::r=>match wt r with|some t=>some ([],(b,z,o,n),t)|none=>none
 | _=>none
theorem Ej:∀ {xs:List L} {t:List D},wt xs=some t->xs=t.map .d
 | [],t,h=>by simp only[wt,Option.some.injEq] at h;subst h;rfl
 | x::r,t,h=>by
  cases x with
  | d y =>
   simp only[wt] at h;cases hr:wt r with
   | none=>rw[hr] at h;cases h
   | some u=>rw[hr] at h;simp only[Option.some.injEq] at h;subst h;rw[Ej hr];rfl
  | _=>simp[wt] at h
theorem xl:∀ {xs:List L} {p t:List D} {b z o n:Nat},jV xs=some (p,(b,z,o,n),t)->xs=p.map .d++.sl b z o n::t.map .d
 | [],p,t,b,z,o,n,h=>by simp[jV] at h
 | x::r,p,t,b,z,o,n,h=>by
  cases x with
  | d y =>
   simp only[jV] at h;cases hr:jV r with
   | none=>rw[hr] at h;cases h
   | some u =>
    obtain⟨u1,⟨b1,z1,o1,n1⟩,u2⟩:=u;rw[hr] at h;simp only[Option.some.injEq,Prod.mk.injEq] at h;obtain⟨rfl,⟨rfl,rfl,rfl,rfl⟩,rfl⟩:=h;rw[xl hr];rfl
  | sl b1 z1 o1 n1 =>
   simp only[jV] at h;cases hr:wt r with
   | none=>rw[hr] at h;cases h
   | some u =>
    rw[hr] at h;simp only[Option.some.injEq,Prod.mk.injEq] at h;obtain⟨rfl,⟨rfl,rfl,rfl,rfl⟩,rfl⟩:=h;rw[Ej hr];rfl
  | _=>simp[jV] at h
theorem Fd (H:Hp):∀ t:List D,gU (t.map .d) H=some (t.map .d,H)
 | []=>rfl
 | x::t=>by simp only[List.map_cons,gU,v6,Fd H t]
theorem uP {p t:List D} {b z o n:Nat} {H:Hp} {z' fz:Nat} {rows:List (List D)} (hH:H[b]?=some (.arr z' rows fz)) (h:o+n<=rows.length) :
  gU (p.map .d++.sl b z o n::t.map .d) H=some (p.map .d++.d (.l ((rows.drop o).take n))::t.map .d,H.set b (.arr z' rows (max fz (o+n)))):=by
 induction p with
 | nil=>simp only[List.map_nil,List.nil_append,gU,v6,hH,if_pos h,Fd]
 | cons x p ih=>simp only[List.map_cons,List.cons_append,gU,v6,ih]
theorem Bl {p t:List D} {b z o n:Nat} {H:Hp} {z' fz:Nat} {rows:List (List D)} (hH:H[b]?=some (.arr z' rows fz)) (h:¬ o+n<=rows.length) :
  gU (p.map .d++.sl b z o n::t.map .d) H=none:=by
 induction p with
 | nil=>simp only[List.map_nil,List.nil_append,gU,v6,hH,if_neg h]
 | cons x p ih=>simp only[List.map_cons,List.cons_append,gU,v6,ih]
theorem xw:∀ (t:List D),dK (t.map .d)=some (t.map .d)
 | []=>rfl
 | x::t=>by
  have:=xw t;simp only[List.map_cons,dK,L.data,this]
def P3 (sv:V) (H:Hp) (run alt:Option (V × Hp)):Option (V × Hp):=match sv with
 | .agg xs=>(match jV xs with|some (_,(b,_,_,_),_)=>(match H[b]? with|some (.arr _ _ _)=>HM run alt|_=>alt)|none=>alt)
 | _=>alt
theorem Kx {xs:List L} {H:Hp} {run alt:Option (V × Hp)}:P3 (.agg xs) H run alt=(match jV xs with|some (_,(b,_,_,_),_)=>(match H[b]? with|some (.arr _ _ _)=>HM run alt|_=>alt)|none=>alt):=rfl
theorem wJ (ρ:Nat->Option Nat):∀ t:List D,(t.map L.d).map (L.ren ρ)=t.map .d
 | []=>rfl
 | x::t=>by simp only[List.map_cons,L.ren,wJ ρ t]
theorem D9:∀ t:List D,(t.map L.d).flatMap L.refs=[]
 | []=>rfl
 | x::t=>by simp only[List.map_cons,List.flatMap_cons,L.refs,D9 t,List.append_nil]
theorem D7 {φ:cI} {d:Option Nat} {p:List Nat} {fn:FuncId} {s N b z off n z' fz:Nat} {pr po:List D} {rows:List (List D)} {f:Fn} {H H1:Hp} {r:V} (hN:s<N) (hs:f s=.agg (pr.map .d++.sl b z off n::po.map .d)) (hH:H[b]?=some (.arr z' rows fz))
  (hr:(A.callz fn [.t s]).run φ (aa N f) H=some (r,H1)) (hp:r.pure=true) :
  aY φ ⟨d,.callz fn [.t s],none,p,false⟩ (aa N f) H=some (r,H1):=by
 have hrf:(V.agg (pr.map .d++.sl b z off n::po.map .d)).refs=[b]:=by
  simp only[V.refs,List.flatMap_append,List.flatMap_cons,D9,L.refs,List.nil_append,List.append_nil]
 have hsl:aB (aa N f) (AOp.slots ⟨d,.callz fn [.t s],none,p,false⟩)=[b]:=by
  have e:AOp.slots ⟨d,.callz fn [.t s],none,p,false⟩=[s]:=rfl;rw[e,aN _ hN,cA,hs,hrf];rfl
 have hi:aM ⟨d,.callz fn [.t s],none,p,false⟩ (aa N f) H=[b]:=by
  rw[aM,hsl];exact nR hH rfl rfl
 have es:X.ev ((bf (AOp.slots ⟨d,.callz fn [.t s],none,p,false⟩) (aa N f)).map (V.ren (aG [b]))) (.t s)=some (.agg (pr.map .d++.sl 0 z off n::po.map .d)):=by
  simp only[X.ev,List.getElem?_map];rw[bn (by simp[AOp.slots,A.xs,X.slot]),cd hN,hs]
  simp only[Option.map_some,V.ren,List.map_append,List.map_cons,wJ,L.ren];simp[ax]
 have hc:aw H [b]=[.arr z' rows fz]:=by
  simp only[aw,List.map_cons,List.map_nil,List.getD,hH,Option.getD_some,Box.ren]
 have es0:X.ev (aa N f) (.t s)=some (.agg (pr.map .d++.sl b z off n::po.map .d)):=by rw[qk hN,hs]
 simp only[A.run,mW,es0,oU,pj] at hr;simp only[aY,hi,hc,A.run,mW,es,oU,pj];by_cases h:off+n<=rows.length
 ·rw[uP hH h] at hr;rw[uP (H:=[.arr z' rows fz]) rfl h];have hdt:dK (pr.map .d++.d (.l ((rows.drop off).take n))::po.map .d)=some (pr.map .d++.d (.l ((rows.drop off).take n))::po.map .d):=by
   have:=xw (pr++.l ((rows.drop off).take n)::po);simpa using this
  simp only[f7,V.data,hdt] at hr ⊢;cases hφ:φ fn [.agg (pr.map .d++.d (.l ((rows.drop off).take n))::po.map .d)] [] with
  | none=>rw[hφ] at hr;cases hr
  | some q =>
   obtain⟨r1,G⟩:=q;rw[hφ] at hr;cases G with
   | nil =>
    simp only[Option.some.injEq,Prod.mk.injEq] at hr;obtain⟨rfl,rfl⟩:=hr;simp only[V.pure_ren hp];simp[cu,Box.ren]
   | cons a G=>cases hr
 ·rw[Bl hH h] at hr;cases hr
theorem qE {φ:cI} {d:Option Nat} {p:List Nat} {fn:FuncId} {s N:Nat} {f:Fn} {H:Hp} (hN:s<N) :
  aY φ ⟨d,.callz fn [.t s],none,p,false⟩ (aa N f) H=P3 (f s) H ((A.callz fn [.t s]).run φ (aa N f) H) (eY φ ⟨d,.callz fn [.t s],none,p,false⟩ (aa N f) H):=by
 unfold P3;split
 ·rename_i xs hs;split
  ·rename_i p0 b z o n t hsp;split
   ·rename_i hb;unfold HM;split
    ·rename_i r H1 hr;split
     ·rename_i hp;rw[xl hsp] at hs;exact D7 hN hs hb hr hp
     ·rfl
    ·rfl
   ·rfl
  ·rfl
 ·rfl
set_option linter.defProp false in
def fU:=And.intro @List.mapM_cons.{0,0,0} (And.intro @List.mapM_nil.{0,0,0} (And.intro @Option.pure_def.{0} (And.intro @Option.bind_eq_bind.{0} (And.intro @Option.bind_some.{0,0} (And.intro @List.map_cons.{0,0} (And.intro @List.map_nil.{0,0} @List.nil_append.{0}))))))
def ky:L->Bool
 | .d _=>true
 | .ns=>true
 | _=>false
def pH:L->L
 | .ns=>.d (.l [])
 | x=>x
def jh:List L->Option (List L × (Nat × Nat × Nat × Nat) × List L)
 | []=>none
 | .sl b z o n::r=>bif r.all ky then some ([],(b,z,o,n),r) else none
 | x::r=>bif ky x then(match jh r with|some (p,q,t)=>some (x::p,q,t)|none=>none) else none
theorem si:∀ {xs:List L} {p t:List L} {b z o n:Nat},jh xs=some (p,(b,z,o,n),t)->xs=p++.sl b z o n::t∧p.all ky=true∧t.all ky=true
 | [],p,t,b,z,o,n,h=>by simp[jh] at h
 | x::r,p,t,b,z,o,n,h=>by
  cases x with
  | sl b1 z1 o1 n1 =>
   simp only[jh] at h;cases hr:r.all ky with
   | false=>rw[hr] at h;cases h
   | true =>
    rw[hr] at h;simp only[cond_true,Option.some.injEq,Prod.mk.injEq] at h;obtain⟨rfl,⟨rfl,rfl,rfl,rfl⟩,rfl⟩:=h;exact⟨rfl,rfl,hr⟩
  | d y =>
   simp only[jh,ky,cond_true] at h;cases hr:jh r with
   | none=>rw[hr] at h;cases h
   | some u =>
    obtain⟨u1,⟨b1,z1,o1,n1⟩,u2⟩:=u;rw[hr] at h;simp only[Option.some.injEq,Prod.mk.injEq] at h;obtain⟨rfl,⟨rfl,rfl,rfl,rfl⟩,rfl⟩:=h;obtain⟨e,h1,h2⟩:=si hr;exact⟨by rw[e];rfl,by simp[ky,h1],h2⟩
  | ns =>
   simp only[jh,ky,cond_true] at h;cases hr:jh r with
   | none=>rw[hr] at h;cases h
   | some u =>
    obtain⟨u1,⟨b1,z1,o1,n1⟩,u2⟩:=u;rw[hr] at h;simp only[Option.some.injEq,Prod.mk.injEq] at h;obtain⟨rfl,⟨rfl,rfl,rfl,rfl⟩,rfl⟩:=h;obtain⟨e,h1,h2⟩:=si hr;exact⟨by rw[e];rfl,by simp[ky,h1],h2⟩
  | _=>simp[jh,ky] at h
theorem KA {x:L} (h:ky x=true) (H:Hp):v6 x H=some (pH x,H):=by
 cases x <;> first|rfl|cases h
theorem Fg (H:Hp):∀ t:List L,t.all ky=true->gU t H=some (t.map pH,H)
 | [],_=>rfl
 | x::t,h=>by
  simp only[List.all_cons,Bool.and_eq_true] at h;simp only[List.map_cons,gU,KA h.1,Fg H t h.2]
theorem tq {p t:List L} (hp:p.all ky=true) (ht:t.all ky=true) {b z o n:Nat} {H:Hp} {z' fz:Nat} {rows:List (List D)} (hH:H[b]?=some (.arr z' rows fz)) (h:o+n<=rows.length) :
  gU (p++.sl b z o n::t) H=some (p.map pH++.d (.l ((rows.drop o).take n))::t.map pH,H.set b (.arr z' rows (max fz (o+n)))):=by
 induction p with
 | nil=>simp only[List.map_nil,List.nil_append,gU,v6,hH,if_pos h,Fg _ t ht]
 | cons x p ih =>
  simp only[List.all_cons,Bool.and_eq_true] at hp;simp only[List.map_cons,List.cons_append,gU,KA hp.1,ih hp.2]
theorem yo {p t:List L} (hp:p.all ky=true) {b z o n:Nat} {H:Hp} {z' fz:Nat} {rows:List (List D)} (hH:H[b]?=some (.arr z' rows fz)) (h:¬ o+n<=rows.length) :
  gU (p++.sl b z o n::t) H=none:=by
 induction p with
 | nil=>simp only[List.nil_append,gU,v6,hH,if_neg h]
 | cons x p ih =>
  simp only[List.all_cons,Bool.and_eq_true] at hp;simp only[List.cons_append,gU,KA hp.1,ih hp.2]
theorem Nl {x:L} (h:ky x=true):L.data (pH x)=some (pH x):=by cases x <;> first|rfl|cases h
theorem rT:∀ t:List L,t.all ky=true->dK (t.map pH)=some (t.map pH)
 | [],_=>rfl
 | x::t,h=>by
  simp only[List.all_cons,Bool.and_eq_true] at h;simp only[List.map_cons,dK,Nl h.1,rT t h.2]
theorem vm:∀ (a b:List L),dK a=some a->dK b=some b->dK (a++b)=some (a++b)
 | [],b,_,h=>h
 | x::a,b,h1,h2=>by
  simp only[dK] at h1;split at h1
  ·rename_i y ys hy hys;simp only[Option.some.injEq,List.cons.injEq] at h1;obtain⟨rfl,rfl⟩:=h1;simp only[List.cons_append,dK,hy,vm _ b hys h2]
  ·cases h1
theorem DR (ρ:Nat->Option Nat):∀ t:List L,t.all ky=true->t.map (L.ren ρ)=t
 | [],_=>rfl
 | x::t,h=>by
  simp only[List.all_cons,Bool.and_eq_true] at h;rw[List.map_cons,DR ρ t h.2];cases x <;> first|rfl|(cases h.1)
theorem yj:∀ t:List L,t.all ky=true->t.flatMap L.refs=[]
 | [],_=>rfl
 | x::t,h=>by
  simp only[List.all_cons,Bool.and_eq_true] at h;rw[List.flatMap_cons,yj t h.2];cases x <;> first|rfl|(cases h.1)
def Pd (sv:V) (H:Hp) (run alt:Option (V × Hp)):Option (V × Hp):=match sv with
 | .agg xs=>(match jh xs with|some (_,(b,_,_,_),_)=>(match H[b]? with|some (.arr _ _ _)=>HM run alt|_=>alt)|none=>alt)
 | _=>alt
theorem Qn {xs:List L} {H:Hp} {run alt:Option (V × Hp)}:Pd (.agg xs) H run alt=(match jh xs with|some (_,(b,_,_,_),_)=>(match H[b]? with|some (.arr _ _ _)=>HM run alt|_=>alt)|none=>alt):=rfl
theorem Cp {φ:cI} {d:Option Nat} {p:List Nat} {fn:FuncId} {s N b z off n z' fz:Nat} {pr po:List L} (hpr:pr.all ky=true) (hpo:po.all ky=true) {rows:List (List D)} {f:Fn} {H H1:Hp} {r:V} (hN:s<N) (hs:f s=.agg (pr++.sl b z off n::po)) (hH:H[b]?=some (.arr z' rows fz))
  (hr:(A.callz fn [.t s]).run φ (aa N f) H=some (r,H1)) (hp:r.pure=true) :
  aY φ ⟨d,.callz fn [.t s],none,p,false⟩ (aa N f) H=some (r,H1):=by
 have hrf:(V.agg (pr++.sl b z off n::po)).refs=[b]:=by
  simp only[V.refs,List.flatMap_append,List.flatMap_cons,yj _ hpr,yj _ hpo,L.refs,List.nil_append,List.append_nil]
 have hsl:aB (aa N f) (AOp.slots ⟨d,.callz fn [.t s],none,p,false⟩)=[b]:=by
  have e:AOp.slots ⟨d,.callz fn [.t s],none,p,false⟩=[s]:=rfl;rw[e,aN _ hN,cA,hs,hrf];rfl
 have hi:aM ⟨d,.callz fn [.t s],none,p,false⟩ (aa N f) H=[b]:=by
  rw[aM,hsl];exact nR hH rfl rfl
 have es:X.ev ((bf (AOp.slots ⟨d,.callz fn [.t s],none,p,false⟩) (aa N f)).map (V.ren (aG [b]))) (.t s)=some (.agg (pr++.sl 0 z off n::po)):=by
  simp only[X.ev,List.getElem?_map];rw[bn (by simp[AOp.slots,A.xs,X.slot]),cd hN,hs]
  simp only[Option.map_some,V.ren,List.map_append,List.map_cons,DR _ _ hpr,DR _ _ hpo,L.ren];simp[ax]
 have hc:aw H [b]=[.arr z' rows fz]:=by
  simp only[aw,List.map_cons,List.map_nil,List.getD,hH,Option.getD_some,Box.ren]
 have es0:X.ev (aa N f) (.t s)=some (.agg (pr++.sl b z off n::po)):=by rw[qk hN,hs]
 simp only[A.run,mW,es0,oU,pj] at hr;simp only[aY,hi,hc,A.run,mW,es,oU,pj];by_cases h:off+n<=rows.length
 ·rw[tq hpr hpo hH h] at hr;rw[tq hpr hpo (H:=[.arr z' rows fz]) rfl h];have hdt:dK (pr.map pH++.d (.l ((rows.drop off).take n))::po.map pH)=some (pr.map pH++.d (.l ((rows.drop off).take n))::po.map pH):=by
   refine vm _ _ (rT _ hpr) ?_;simp only[dK,L.data,rT _ hpo]
  simp only[f7,V.data,hdt] at hr ⊢;cases hφ:φ fn [.agg (pr.map pH++.d (.l ((rows.drop off).take n))::po.map pH)] [] with
  | none=>rw[hφ] at hr;cases hr
  | some q =>
   obtain⟨r1,G⟩:=q;rw[hφ] at hr;cases G with
   | nil =>
    simp only[Option.some.injEq,Prod.mk.injEq] at hr;obtain⟨rfl,rfl⟩:=hr;simp only[V.pure_ren hp];simp[cu,Box.ren]
   | cons a G=>cases hr
 ·rw[yo hpr hH h] at hr;cases hr
theorem yR {φ:cI} {d:Option Nat} {p:List Nat} {fn:FuncId} {s N:Nat} {f:Fn} {H:Hp} (hN:s<N) :
  aY φ ⟨d,.callz fn [.t s],none,p,false⟩ (aa N f) H=Pd (f s) H ((A.callz fn [.t s]).run φ (aa N f) H) (eY φ ⟨d,.callz fn [.t s],none,p,false⟩ (aa N f) H):=by
 unfold Pd;split
 ·rename_i xs hs;split
  ·rename_i p0 b z o n t hsp;split
   ·rename_i hb;unfold HM;split
    ·rename_i r H1 hr;split
     ·rename_i hp;obtain⟨e,g1,g2⟩:=si hsp;rw[e] at hs;exact Cp g1 g2 hN hs hb hr hp
     ·rfl
    ·rfl
   ·rfl
  ·rfl
 ·rfl
theorem bA {m N:Nat} {lv:List Nat} {vals0 vals:List V} {f:Fn} {H H':Hp} {ids:List Nat} (hs:(fb lv && lv.all (fun i=>Nat.blt i N))=true:=by decide) (hv:lv.map f=vals0:=by simp only[List.map_cons,List.map_nil,go_sem,seval];exact rfl) (hi:sr m H (vals0.flatMap V.refs)=ids:=by rfl) (h1:vals0.map (V.ren (aG ids))=vals:=by rfl) (h2:aw H ids=H':=by rfl) :
  canon m lv (aa N f) H=(aa N (dE lv vals),H'):=at_headM hs hv hi h1 h2
def jy (φ:cI) (fn:FuncId) (vs:List V) (H:Hp):Option (V × Hp) :=
 match ak φ fn (vs.map (V.ren (aG (aI H (vs.flatMap V.refs))))) (aw H (aI H (vs.flatMap V.refs))) with
 | none=>none
 | some (r,H1)=>some (r.ren (ct (aI H (vs.flatMap V.refs)) H.length (H1.length-(aI H (vs.flatMap V.refs)).length)),cu H (aI H (vs.flatMap V.refs)) ((H1.take (aI H (vs.flatMap V.refs)).length).map (Box.ren (ct (aI H (vs.flatMap V.refs)) H.length (H1.length-(aI H (vs.flatMap V.refs)).length))))++(H1.drop (aI H (vs.flatMap V.refs)).length).map (Box.ren (ct (aI H (vs.flatMap V.refs)) H.length (H1.length-(aI H (vs.flatMap V.refs)).length))))
theorem yE {φ:cI} {fn:FuncId} {vs args:List V} {H Hc H1:Hp} {ids:List Nat} {r:V} {out:Option (V × Hp)} (h1:aI H (vs.flatMap V.refs)=ids) (h2:vs.map (V.ren (aG ids))=args) (h3:aw H ids=Hc) (h4:ak φ fn args Hc=some (r,H1))
  (h5:some (r.ren (ct ids H.length (H1.length-ids.length)),cu H ids ((H1.take ids.length).map (Box.ren (ct ids H.length (H1.length-ids.length))))++(H1.drop ids.length).map (Box.ren (ct ids H.length (H1.length-ids.length))))=out):jy φ fn vs H=out:=by
 simp only[jy,h1,h2,h3,h4];exact h5
theorem kQ {sl:List Nat} {ids:List Nat} {a N:Nat} {f:Fn} (hN:a<N) (ha:a∈sl):X.ev ((bf sl (aa N f)).map (V.ren (aG ids))) (.t a)=some ((f a).ren (aG ids)):=by
 simp only[X.ev,List.getElem?_map];rw[bn ha,cd hN];rfl
theorem EK {φ:cI} {d:Option Nat} {p:List Nat} {fn:FuncId} {a b N:Nat} {f:Fn} {H:Hp} (hN:a<N∧b<N) :
  aY φ ⟨d,.call fn [.t a,.t b],none,p,false⟩ (aa N f) H=jy φ fn [f a,f b] H:=by
 have e:AOp.slots ⟨d,.call fn [.t a,.t b],none,p,false⟩=[a,b]:=rfl;have hi:aM ⟨d,.call fn [.t a,.t b],none,p,false⟩ (aa N f) H=aI H ([f a,f b].flatMap V.refs):=by
  rw[aM,e,aN _ hN.1,aN _ hN.2,cA];rfl
 simp only[aY,hi,e,A.run,mW,kQ (sl:=[a,b]) hN.1 (by simp),kQ (sl:=[a,b]) hN.2 (by simp),jy]
 rfl
theorem EP {φ:cI} {d:Option Nat} {p:List Nat} {fn:FuncId} {a b N:Nat} {f:Fn} {H:Hp} (hN:a<N∧b<N) :
  aY φ ⟨d,.calln fn [.t a,.t b],none,p,false⟩ (aa N f) H=jy φ fn [f a,f b] H:=by
 have e:AOp.slots ⟨d,.calln fn [.t a,.t b],none,p,false⟩=[a,b]:=rfl;have hi:aM ⟨d,.calln fn [.t a,.t b],none,p,false⟩ (aa N f) H=aI H ([f a,f b].flatMap V.refs):=by
  rw[aM,e,aN _ hN.1,aN _ hN.2,cA];rfl
 simp only[aY,hi,e,A.run,mW,kQ (sl:=[a,b]) hN.1 (by simp),kQ (sl:=[a,b]) hN.2 (by simp),jy]
 rfl
def Ct (n:Nat) (H:Hp) (ids:List Nat) (Hc:Hp) (cs:List L):V × Hp :=
 ((V.one (.sp Hc.length n)).ren (ct ids H.length ((Hc++[Box.cells cs]).length-ids.length)),cu H ids (((Hc++[Box.cells cs]).take ids.length).map (Box.ren (ct ids H.length ((Hc++[Box.cells cs]).length-ids.length))))++((Hc++[Box.cells cs]).drop ids.length).map (Box.ren (ct ids H.length ((Hc++[Box.cells cs]).length-ids.length))))
def vD (n:Nat) (zs:List L) (vs:List (Nat × Nat × V)) (H:Hp):Option (V × Hp) :=
 match nc zs (vs.map fun q=>(q.1,q.2.1,q.2.2.ren (aG (aI H (vs.flatMap fun q=>q.2.2.refs))))) with
 | none=>none
 | some cs=>some (Ct n H (aI H (vs.flatMap fun q=>q.2.2.refs)) (aw H (aI H (vs.flatMap fun q=>q.2.2.refs))) cs)
theorem Nh {n:Nat} {zs:List L} {vs:List (Nat × Nat × V)} {H Hc:Hp} {ids:List Nat} {cs:List L} {out:V × Hp} (h1:aI H (vs.flatMap fun q=>q.2.2.refs)=ids) (h2:nc zs (vs.map fun q=>(q.1,q.2.1,q.2.2.ren (aG ids)))=some cs) (h3:aw H ids=Hc) (h4:Ct n H ids Hc cs=out):vD n zs vs H=some out:=by
 simp only[vD,h1,h2,h3,h4]
theorem Fk {φ:cI} {dd:Option Nat} {p:List Nat} {n:Nat} {zs:List L} {o0 o1 o2 o3 s0 s1 s2 s3 a b c e N:Nat} {f:Fn} {H:Hp} (hN:(a<N∧b<N)∧(c<N∧e<N)) :
  aY φ ⟨dd,.bsp n zs [(o0,s0,.t a),(o1,s1,.t b),(o2,s2,.t c),(o3,s3,.t e)],none,p,false⟩ (aa N f) H=vD n zs [(o0,s0,f a),(o1,s1,f b),(o2,s2,f c),(o3,s3,f e)] H:=by
 have es:AOp.slots ⟨dd,.bsp n zs [(o0,s0,.t a),(o1,s1,.t b),(o2,s2,.t c),(o3,s3,.t e)],none,p,false⟩=[a,b,c,e]:=rfl;have hi:aM ⟨dd,.bsp n zs [(o0,s0,.t a),(o1,s1,.t b),(o2,s2,.t c),(o3,s3,.t e)],none,p,false⟩ (aa N f) H=aI H (([(o0,s0,f a),(o1,s1,f b),(o2,s2,f c),(o3,s3,f e)]:List (Nat × Nat × V)).flatMap fun q=>q.2.2.refs):=by
  rw[aM,es,aN _ hN.1.1,aN _ hN.1.2,aN _ hN.2.1,aN _ hN.2.2,cA];rfl
 simp only[aY,hi,es,A.run,HN,kQ (sl:=[a,b,c,e]) hN.1.1 (by simp),kQ (sl:=[a,b,c,e]) hN.1.2 (by simp),kQ (sl:=[a,b,c,e]) hN.2.1 (by simp),kQ (sl:=[a,b,c,e]) hN.2.2 (by simp),vD,Ct,List.map_cons,List.map_nil]
 generalize nc zs _=q;cases q <;> rfl
abbrev zl (d x:Nat):AOp:=⟨some d,.ld none (.t x),none,[],false⟩
abbrev ze (d x i:Nat):AOp:=⟨some d,.ext (.t x) i,none,[],false⟩
abbrev zs (n a b:Nat):AOp:=⟨none,.st n (.t a) (.t b),none,[],false⟩
abbrev gl (d t:Nat) (w:Bool) (x:Nat):AOp:=⟨some d,.ld none (.t x),some (t,w),[],false⟩
abbrev gn (d t:Nat) (w:Bool) (n x:Nat):AOp:=⟨some d,.ld (some n) (.t x),some (t,w),[],false⟩
abbrev gf (d t:Nat) (w:Bool) (k x:Nat):AOp:=⟨some d,.fa k (.t x),some (t,w),[],false⟩
abbrev zI (x:Int):L:=.d (.i .i64 x)
abbrev zU (x:Int):L:=.d (.i .u8 x)
abbrev zW (x:Int):L:=.d (.i .u32 x)
abbrev zB (x:Bool):L:=.d (.b x)
abbrev zS (x:List UInt8):L:=.d (.s x)
set_option linter.defProp false
theorem zT {p:Prop} [Decidable p] (h:p):decide p=true:=decide_eq_true h
theorem zF {p:Prop} [Decidable p] (h:¬p):decide p=false:=decide_eq_false h
def zM := @List.length_map.{0,0}
def zA := @List.length_append.{0}
def zE := @List.getElem?_eq_getElem.{0}
def zG := @List.getElem?_map.{0,0}
def zL := @List.take_of_length_le.{0}
def zR:=And.intro @trim.eq_1 (And.intro @V.refs.eq_1 (And.intro @V.refs.eq_2 (And.intro @V.refs.eq_3 (And.intro @V.refs.eq_4 (And.intro @L.refs.eq_1 (And.intro @L.refs.eq_2 (And.intro @L.refs.eq_3 (And.intro @L.refs.eq_4 (And.intro @L.refs.eq_5 (And.intro @L.refs.eq_6 (And.intro @L.refs.eq_7 (And.intro @L.refs.eq_8 (And.intro @Box.refs.eq_1 @Box.refs.eq_2)))))))))))))
def zD := @List.drop_eq_getElem_cons.{0}
def zN := @List.getElem_mem.{0}
def zO := @List.take_succ_eq_append_getElem.{0}
def zP := @Nat.zero_le
def zQ := @List.length_take.{0}
def zV := @List.mem_singleton.{0}
def zX := @List.mem_append.{0}
def zY := @List.take_append_drop.{0}
def zZ := @List.mem_of_mem_take.{0}
def zC := @List.drop_eq_nil_of_le.{0}
def zH := @List.length_drop.{0}
def zJ := @List.getElem_of_mem.{0}
def zK := @Int.lt_of_le_of_lt
def aP := @Eq.trans.{1}
theorem D5 {φ:cI} {d:Option Nat} {p:List Nat} {fn:FuncId} {s t b z off n z' fz N:Nat} {w q:Bool} {rows:List (List D)} {f:Fn} {H H1:Hp} {r:V} (hN:s<N∧t<N) (ht:f t=.one (.d (.b q))) (hs:f s=.one (.sl b z off n)) (hH:H[b]?=some (.arr z' rows fz))
  (hr:(A.callz fn [.t s]).run φ (aa N f) H=some (r,H1)) (hp:r.pure=true) :
  aY φ ⟨d,.callz fn [.t s],some (t,w),p,false⟩ (aa N f) H=some (r,H1):=by
 have hsl:aB (aa N f) (AOp.slots ⟨d,.callz fn [.t s],some (t,w),p,false⟩)=[b]:=by
  have e:AOp.slots ⟨d,.callz fn [.t s],some (t,w),p,false⟩=[s,t]:=rfl;rw[e,aN _ hN.1,aN _ hN.2,cA,hs,ht];rfl
 have hi:aM ⟨d,.callz fn [.t s],some (t,w),p,false⟩ (aa N f) H=[b]:=by
  rw[aM,hsl];exact nR hH rfl rfl
 have es:X.ev ((bf (AOp.slots ⟨d,.callz fn [.t s],some (t,w),p,false⟩) (aa N f)).map (V.ren (aG [b]))) (.t s)=some (.one (.sl 0 z off n)):=by
  simp only[X.ev,List.getElem?_map];rw[bn (by simp[AOp.slots,A.xs,X.slot]),cd hN.1,hs]
  simp[V.ren,L.ren,ax]
 have hc:aw H [b]=[.arr z' rows fz]:=by
  simp only[aw,List.map_cons,List.map_nil,List.getD,hH,Option.getD_some,Box.ren]
 have es0:X.ev (aa N f) (.t s)=some (.one (.sl b z off n)):=by rw[qk hN.1,hs]
 simp only[A.run,mW,es0,oU,pj,v6,hH] at hr;simp only[aY,hi,hc,A.run,mW,es,oU,pj,v6,List.getElem?_cons_zero];by_cases h:off+n<=rows.length
 ·simp only[if_pos h] at hr ⊢;simp only[f7,V.data,L.data,dK] at hr ⊢;cases hφ:φ fn [.one (.d (.l ((rows.drop off).take n)))] [] with
  | none=>rw[hφ] at hr;cases hr
  | some q =>
   obtain⟨r1,G⟩:=q;rw[hφ] at hr;cases G with
   | nil =>
    simp only[Option.some.injEq,Prod.mk.injEq] at hr;obtain⟨rfl,rfl⟩:=hr;simp only[V.pure_ren hp];simp[cu,Box.ren]
   | cons a G=>cases hr
 ·simp only[if_neg h] at hr;cases hr
def TP (fv sv:V) (H:Hp) (run alt:Option (V × Hp)):Option (V × Hp):=match fv with
 | .one (.d (.b _))=>Qz sv H run alt
 | _=>alt
theorem mR {q:Bool} {sv:V} {H:Hp} {run alt:Option (V × Hp)}:TP (.one (.d (.b q))) sv H run alt=Qz sv H run alt:=rfl
theorem cB {φ:cI} {d:Option Nat} {p:List Nat} {fn:FuncId} {s t N:Nat} {w:Bool} {f:Fn} {H:Hp} (hN:s<N∧t<N) :
  aY φ ⟨d,.callz fn [.t s],some (t,w),p,false⟩ (aa N f) H=TP (f t) (f s) H ((A.callz fn [.t s]).run φ (aa N f) H) (eY φ ⟨d,.callz fn [.t s],some (t,w),p,false⟩ (aa N f) H):=by
 unfold TP;split
 ·rename_i ht;unfold Qz;split
  ·rename_i hs;split
   ·rename_i hb;unfold HM;split
    ·rename_i r H1 hr;split
     ·rename_i hp;exact D5 hN ht hs hb hr hp
     ·rfl
    ·rfl
   ·rfl
  ·rfl
 ·rfl
theorem EG {α σ:Type} {φ:cI} {m N:Nat} {lv:List Nat} {c:AC} {K:Ex->Fr->Hp->Option α} {st:List KI} (μ:σ->Nat) (P:σ->Prop) (vals:σ->List V) (heap:σ->Hp) (q:α->Prop)
  (hs:∀ s,P s->∀ R:Fr->Hp->Option α,(∀ s',μ s'<μ s->P s'->∀ f' H',canon m lv (aa N f') H'=(aa N (dE lv (vals s')),heap s')->∃ z,R (aa N f') H'=some z∧q z) ->
   ∃ z,kU φ m (KL R (KS φ m K st)) c (aa N (dE lv (vals s))) (heap s) []=some z∧q z) :
  ∀ s,P s->∀ f H,canon m lv (aa N f) H=(aa N (dE lv (vals s)),heap s)->∃ z,kU φ m K (.loop lv c) (aa N f) H st=some z∧q z:=by
 have key:∀ k s f H,μ s<k->P s->canon m lv (aa N f) H=(aa N (dE lv (vals s)),heap s)->∃ z,kU φ m K (.loop lv c) (aa N f) H st=some z∧q z:=by
  intro k;induction k with
  | zero=>intro s f H h;omega
  | succ k ih =>
   intro s f H hk hP hc;obtain⟨z,h1,h2⟩:=hs s hP (fun f' H'=>jo (bJ φ m c) m lv (KS φ m K st) f' H') (fun s' hlt hP' f' H' hc'=>by have:=ih s' f' H' (by omega) hP' hc';simpa only[kU,bJ] using this)
   refine⟨z,?_,h2⟩;simp only[kU,bJ];apply vU;rw[hc];exact h1
 exact fun s hP f H hc=>key (μ s+1) s f H (Nat.lt_succ_self _) hP hc
theorem DV {P:Program} {an:FuncId->Ann} {pr:cI} {f:FuncId} {args:List V} {H:Hp} {q:V × Hp->Prop} {af:AF} (hf:compS P f (an f)=some af) (hl:(Nat.ble args.length af.ntmps && !af.body.hasR)=true)
  (h:∃ z,kU (eB (dG P an) pr) H.length (Cn af.res af.keep H.length) af.body (aa af.ntmps (uH args)) H []=some z∧q z):∃ z,eB (dG P an) pr f args H=some z∧q z:=by
 obtain⟨z,h1,h2⟩:=h;exact⟨z,ae hf hl h1,h2⟩
def zv:Code->Nat
 | .seq a b=>zv a+zv b
 | .cond _ a b=>zv a+zv b
 | .block _ c=>zv c
 | .loop c=>zv c+1
 | .scope c=>zv c
 | .rangeFunc _ _ a b=>zv a+zv b
 | _=>0
def Lf:Code->Nat->Code
 | .seq a b,k=>if k<zv a then Lf a k else Lf b (k-zv a)
 | .cond _ a b,k=>if k<zv a then Lf a k else Lf b (k-zv a)
 | .block _ c,k=>Lf c k
 | .loop c,0=>c
 | .loop c,k+1=>Lf c k
 | .scope c,k=>Lf c k
 | .rangeFunc _ _ a b,k=>if k<zv a then Lf a k else Lf b (k-zv a)
 | c,_=>c
def VP (P:Program) (fl:Nat) (neg:Bool) (t:TypeId) (x y:Operand) (o:Op):Option A :=
 match P.underlying t with
 | some (.struct fs)=>match iC P 0 fs.toList,aA x,aA y with|some ks,some x,some y=>some (.eqa neg ks x y)|_,_,_=>none
 | _=>bQ P fl o
def Xb (P:Program) (fl:Nat) (o:Op):Option A:=match o with
 | .binOp .eql t x y p=>VP P fl false t x y (.binOp .eql t x y p)
 | .binOp .neq t x y p=>VP P fl true t x y (.binOp .neq t x y p)
 | o=>bQ P fl o
def RZ (P:Program) (an:Nat->Nat) (ops:Array Oper) (ps:List (List Nat)):Nat->List Oper->List AOp
 | _,[]=>[]
 | i,o::r=>match Xb P (if an i=2 then 0 else an i) o.op,ii ops o.guard with
  | some a,some g=>{ dst:=o.dst,a,g,pre:=ps.getD i [],fz:=an i == 2 }::RZ P an ops ps (i+1) r
  | _,_=>[]
def Le (P:Program) (an:Ann) (xs:List AC):Code->Nat->AC
 | .seq a b,n=>.seq (Le P an xs a n) (Le P an xs b (n+zv a))
 | .cond c a b,n=>.cond ((aA c).getD (.t 0)) (Le P an xs a n) (Le P an xs b (n+zv a))
 | .block i c,n=>.block i (Le P an xs c n)
 | .loop _,n=>.loop (an.live.getD n []) (xs.getD n .skip)
 | .scope c,n=>Le P an xs c n
 | .rangeFunc g ps a b,n=>.rng ((aA g).getD (.t 0)) ps.toList (Le P an xs a n) (Le P an xs b (n+zv a))
 | .region id ops dr,_=>match (bif dr then none else JW (wB an.ops id) 0 ops.size) with
  | some j=>match qv P (wB an.ops id) ops j with|some c=>c|none=>.skip
  | none=>AC.bare (.reg (RZ P (wB an.ops id) ops (bif dr then fE ops.toList [] else[]) 0 ops.toList) dr)
 | c,_=>match cG P (wB an.ops) (fun _=>[]) c 0 with|some (x,_)=>x.bare|none=>.skip
def W5 (P:Program) (f:FuncId) (an:Ann) (xs:List AC):AF:=match P.funcs[f]? with
 | some fn=>match fn.body,eV P fn.results.toList with
  | some c,some r=>⟨fn.ntmps,Le P an xs c 0,r,an.keep⟩
  | _,_=>⟨0,.skip,[],false⟩
 | none=>⟨0,.skip,[],false⟩
def Wd (P:Program) (f:FuncId) (an:Ann) (k:Nat) (xs:List AC):AC:=match P.funcs[f]? with
 | some fn=>match fn.body with
  | some c=>Le P an xs (Lf c k) (k+1)
  | _=>.skip
 | none=>.skip
theorem N4 (n:Nat) (h:n<2 ^ 8):UInt8.ofBitVec (BitVec.ofFin ⟨n,h⟩)=UInt8.ofNat n:=by
 apply UInt8.toNat_inj.1;rw[UInt8.toNat_ofNat'];show n=_;omega
theorem O0 (n:Nat) (h:n<256):UInt8.ofBitVec (BitVec.ofFin ⟨n,h⟩)=UInt8.ofNat n:=N4 n h
structure NF {α:Type} (c x:α):Prop where h:c=x
@[reducible] noncomputable def nf {α:Type} {c x:α} (h:NF c x:=by(conv=>arg 1;reduce);(try simp only[N4,O0,Int.reduceNegSucc,Int.reduceOfNat,UInt8.reduceOfNat]);exact⟨rfl⟩):α:=x
attribute [go_sem] nf
theorem Ta {c:Prop} [Decidable c] (h:c) (α:Type) (t e:α):(if c then t else e)=t:=if_pos h
theorem Tj {c:Prop} [Decidable c] (h:¬c) (α:Type) (t e:α):(if c then t else e)=e:=if_neg h
theorem bd {P Q:Prop} (q:Q) {A B C D E F G H I J K L:Prop} (a:A:=by exact Nat.add_zero) (b:B:=by exact Nat.add_zero) (c:C:=by exact Nat.add_zero) (d:D:=by exact Nat.add_zero) (e:E:=by exact Nat.add_zero) (f:F:=by exact Nat.add_zero) (g:G:=by exact Nat.add_zero) (h:H:=by exact Nat.add_zero) (i:I:=by exact Nat.add_zero) (j:J:=by exact Nat.add_zero) (k:K:=by exact Nat.add_zero) (l:L:=by exact Nat.add_zero)
 (z:A->B->C->D->E->F->G->H->I->J->K->L->NF P Q:=by intro a b c d e f g h i j k l;simp(disch:=first|decide|omega|(intros;exact aP rfl rfl)|(simp only[am];done)) only[a,b,c,d,e,f,g,h,i,j,k,l,go_sem,seval,aO];exact⟨rfl⟩):P:=(z a b c d e f g h i j k l).h ▸ q
theorem bh {P Q:Prop} (q:Q) {A B C D E F G H I J K L:Prop} (a:A:=by exact Nat.add_zero) (b:B:=by exact Nat.add_zero) (c:C:=by exact Nat.add_zero) (d:D:=by exact Nat.add_zero) (e:E:=by exact Nat.add_zero) (f:F:=by exact Nat.add_zero) (g:G:=by exact Nat.add_zero) (h:H:=by exact Nat.add_zero) (i:I:=by exact Nat.add_zero) (j:J:=by exact Nat.add_zero) (k:K:=by exact Nat.add_zero) (l:L:=by exact Nat.add_zero)
 (z:A->B->C->D->E->F->G->H->I->J->K->L->NF P Q:=by intro a b c d e f g h i j k l;simp(disch:=first|decide|omega|(intros;exact aP rfl rfl)|(simp only[am];done)) only[a,b,c,d,e,f,g,h,i,j,k,l,fU,go_sem,seval,aO];exact⟨rfl⟩):P:=(z a b c d e f g h i j k l).h ▸ q
theorem R5 {P Q:Prop} (q:Q) {A B C D E F G H I J K L:Prop} (a:A:=by exact Nat.add_zero) (b:B:=by exact Nat.add_zero) (c:C:=by exact Nat.add_zero) (d:D:=by exact Nat.add_zero) (e:E:=by exact Nat.add_zero) (f:F:=by exact Nat.add_zero) (g:G:=by exact Nat.add_zero) (h:H:=by exact Nat.add_zero) (i:I:=by exact Nat.add_zero) (j:J:=by exact Nat.add_zero) (k:K:=by exact Nat.add_zero) (l:L:=by exact Nat.add_zero)
 (z:A->B->C->D->E->F->G->H->I->J->K->L->NF P Q:=by intro a b c d e f g h i j k l;simp(disch:=first|decide|omega|(intros;exact aP rfl rfl)|(simp only[am];done)) only[a,b,c,d,e,f,g,h,i,j,k,l,go_sem,seval,aO,gL,A.kind,A.xs,co,A.isN];exact⟨rfl⟩):P:=(z a b c d e f g h i j k l).h ▸ q
theorem cm {P Q:Prop} (q:Q) {A B C D E F G H I J K L:Prop} (a:A:=by exact Nat.add_zero) (b:B:=by exact Nat.add_zero) (c:C:=by exact Nat.add_zero) (d:D:=by exact Nat.add_zero) (e:E:=by exact Nat.add_zero) (f:F:=by exact Nat.add_zero) (g:G:=by exact Nat.add_zero) (h:H:=by exact Nat.add_zero) (i:I:=by exact Nat.add_zero) (j:J:=by exact Nat.add_zero) (k:K:=by exact Nat.add_zero) (l:L:=by exact Nat.add_zero)
 (z:A->B->C->D->E->F->G->H->I->J->K->L->NF P Q:=by intro a b c d e f g h i j k l;simp(disch:=first|decide|omega|(intros;exact aP rfl rfl)|(simp only[am];done)) only[a,b,c,d,e,f,g,h,i,j,k,l,fU,go_sem,seval,aO,gL,A.kind,A.xs,co,A.isN];exact⟨rfl⟩):P:=(z a b c d e f g h i j k l).h ▸ q
end Go.Vi
