/- A part of the proofs of what is known of threads: GFixNever0. -/
import Derived.Test.YtbdcblpjemmipaaGreatGA
import Derived.Test.YtbdcblpjemmipaaGreatGC
import Derived.Test.YtbdcblpjemmipaaGreatGG
import Derived.Test.YtbdcblpjemmipaaGreatGH
import Derived.Test.YtbdcblpjemmipaaGreatGF
import Derived.Test.YtbdcblpjemmipaaGreatGI
namespace Go.Proofs.YtbdcblpjemmipaaGreat.Ex
open Go.Proofs
set_option maxRecDepth 100000
set_option maxHeartbeats 4000000
set_option linter.unusedVariables false
set_option linter.unusedSimpArgs false
set_option linter.unusedSectionVars false
noncomputable section
section
def relR (r a b:Int):Bool:=if r=1 then decide (a<b) else if r=2 then decide (a≤b) else if r=3 then a==b else if r=4 then a !=b else if r=5 then decide (a≥b) else if r=6 then decide (a>b) else false
theorem ZKi (x y:I):leqB x (iJoin x y)=true:=by
 simp only [leqB,iJoin,empB,nn,mn,mx,Bool.or_eq_true,Bool.and_eq_true,decide_eq_true_eq]
 (repeat' split)<;>simp_all<;>(try (repeat' split))<;>omega
theorem Zg6 (x y:I):iJoin x y=iJoin y x:=by
 simp only [iJoin,empB,nn,mn,mx,decide_eq_true_eq]
 (repeat' split)<;>simp_all<;>(try omega)
section
variable {a b c d:Int} (hx:a≤b) (hy:c≤d)
include hx hy
omit hx hy in
end
theorem YA {x y z:I} (h:leqB x y=true) (k:leqB y z=true):leqB x z=true:=by
 rw [QK] at *;unfold sub at *;omega
theorem ZWL (x y:I):leqB y (iJoin x y)=true:=by rw [Zg6];exact ZKi y x
end
theorem Zhz (x:I):leqB x x=true:=by rw [QK];unfold sub;omega
theorem ZNB (a:List I):leR a a:=⟨rfl,fun i x y hx hy=>by rw [hx] at hy;cases hy;exact Zhz x⟩
def upF (f:I→I→I):Prop:=∀ u v,isB u=true→isB v=true→leqB u (f u v)=true∧leqB v (f u v)=true
theorem ZAs:upF iJoin:=fun u v _ _=>⟨ZKi u v,ZWL u v⟩
section
open Go.Proofs
variable {u:U} {t:Int} {a b:E}
theorem Z0A {a b:E} (ha:a.1=true) (hb:b.1=true) (h:sameE a b=true):a=b:=by
 unfold sameE at h
 rw [ha,hb] at h
 simp only [Bool.and_true,cond_true,Bool.and_eq_true,decide_eq_true_eq,beq_iff_eq] at h
 obtain ⟨on,V,G,A,must,may⟩:=a
 obtain ⟨on',V',G',A',must',may'⟩:=b
 cases ha;cases hb
 obtain ⟨rfl,rfl,rfl,rfl,rfl⟩:=h
 rfl
end
section
open Go.Proofs
theorem ZKl {a b c:List I} (h:leR a b) (k:leR b c):leR a c:=by
 refine ⟨h.1.trans k.1,fun i x z hx hz=>?_⟩
 have hi:i<a.length:=(List.getElem?_eq_some_iff.1 hx).1
 have hy:b[i]? = some (b[i]'(by rw [← h.1];exact hi)):=List.getElem?_eq_getElem _
 exact YA (h.2 i x _ hx hy) (k.2 i _ z hy hz)
theorem ZPA {a b c:Int} (h:subB a b) (k:subB b c):subB a c:=fun i q=>k i (h i q)
theorem ZR4 (a:Int):subB a a:=fun i q=>q
theorem ZNA {x:E} (h:x.1=true):leE x x:=⟨h,ZNB _,ZNB _,ZNB _,ZR4 _,ZR4 _⟩
theorem ZRB {x y z:E} (h:leE x y) (k:leE y z):leE x z:=⟨k.on,ZKl h.v k.v,ZKl h.g k.g,ZKl h.a k.a,ZPA k.must h.must,ZPA h.may k.may⟩
theorem ZzI (x:E):leO x x:=fun h=>ZNA h
theorem Zrl {x y z:E} (h:leO x y) (k:leO y z):leO x z:=fun q=>ZRB (h q) (k (h q).on)
theorem Zur {x y:Int} (hx:okB x) (hy:okB y):andI x y=((x.toNat &&& y.toNat:Nat):Int):=by
 unfold okB at *
 have h:=ZFn (a:=x.toNat) (b:=y.toNat) (by omega) (by omega)
 rw [show ((x.toNat:Nat):Int)=x by omega,show ((y.toNat:Nat):Int)=y by omega] at h
 exact h
theorem ZLo {x y:Int} (hx:okB x) (hy:okB y):orI x y=((x.toNat ||| y.toNat:Nat):Int):=by
 unfold okB at *
 have h:=ZUr (a:=x.toNat) (b:=y.toNat) (by omega) (by omega)
 rw [show ((x.toNat:Nat):Int)=x by omega,show ((y.toNat:Nat):Int)=y by omega] at h
 exact h
theorem Z39 {x y:Int} (hx:okB x) (hy:okB y):subB (andI x y) x:=fun i q=>by
 rw [Zur hx hy,Int.toNat_natCast,Nat.testBit_and,Bool.and_eq_true] at q
 exact q.1
theorem Z0T {x y:Int} (hx:okB x) (hy:okB y):subB (andI x y) y:=fun i q=>by
 rw [Zur hx hy,Int.toNat_natCast,Nat.testBit_and,Bool.and_eq_true] at q
 exact q.2
theorem Z44 {x y:Int} (hx:okB x) (hy:okB y):subB x (orI x y):=fun i q=>by
 rw [ZLo hx hy,Int.toNat_natCast,Nat.testBit_or,q,Bool.true_or]
theorem Z45 {x y:Int} (hx:okB x) (hy:okB y):subB y (orI x y):=fun i q=>by
 rw [ZLo hx hy,Int.toNat_natCast,Nat.testBit_or,q,Bool.or_true]
theorem ZVt {F:I→I→I} {a b:List I} {i:Nat} {z:I} (h:(zipI F a b)[i]? = some z):∃ x,a[i]? = some x∧z=F x (rowAt b i):=by
 unfold zipI at h
 rw [List.getElem?_mapIdx] at h
 cases e:a[i]? with
 | none=>rw [e] at h;cases h
 | some x=>rw [e] at h;exact ⟨x,rfl,(Option.some.inj h).symm⟩
theorem ZEL {b:List I} {i:Nat} {y:I} (h:b[i]? = some y):rowAt b i=y:=by unfold rowAt;rw [h];rfl
theorem ZQ5 {F:I→I→I} (hF:upF F) {a b:List I} (hl:a.length=b.length) (ha:∀ x∈a,isB x=true) (hb:∀ x∈b,isB x=true):leR a (zipI F a b):=by
 refine ⟨(ZyV F a b).symm,fun i x z hx hz=>?_⟩
 obtain ⟨x',h1,rfl⟩:=ZVt hz
 rw [hx] at h1;cases h1
 have hi:i<b.length:=by rw [← hl];exact (List.getElem?_eq_some_iff.1 hx).1
 rw [ZEL (List.getElem?_eq_getElem hi)]
 exact (hF x b[i] (ha x (List.mem_of_getElem? hx)) (hb _ (List.getElem_mem hi))).1
theorem ZQ6 {F:I→I→I} (hF:upF F) {a b:List I} (hl:a.length=b.length) (ha:∀ x∈a,isB x=true) (hb:∀ x∈b,isB x=true):leR b (zipI F a b):=by
 refine ⟨by rw [ZyV,hl],fun i y z hy hz=>?_⟩
 obtain ⟨x,h1,rfl⟩:=ZVt hz
 rw [ZEL hy]
 exact (hF x y (ha x (List.mem_of_getElem? h1)) (hb y (List.mem_of_getElem? hy))).2
def upL (es es':List E):Prop:=∀ (i:Nat) (x:E),es[i]? = some x→∃ y,es'[i]? = some y∧leO x y
theorem ZG9 (es:List E):upL es es:=fun i x h=>⟨x,h,ZzI x⟩
theorem ZBR {a b c:List E} (h:upL a b) (k:upL b c):upL a c:=fun i x hx=>by
 obtain ⟨y,hy,q⟩:=h i x hx
 obtain ⟨z,hz,w⟩:=k i y hy
 exact ⟨z,hz,Zrl q w⟩
theorem ZXb {a b:E} (ha:a.1=true) (h:sameE a b=true):a=b:=by
 cases hb:b.1
 ·unfold sameE at h
  rw [ha,hb] at h
  have h':(true==false)=true:=h
  exact absurd h' (by decide)
 ·exact Z0A ha hb h
section
variable {u:U} {t:Int} {l:List En} {st:List Int} {c:C} {a b:E}
theorem ZPR (ha:envOK u t a) (hb:envOK u t b):a.2.1.length=b.2.1.length∧a.2.2.1.length=b.2.2.1.length∧a.2.2.2.1.length=b.2.2.2.1.length:=by
 obtain ⟨c,hc,h1⟩:=ha.c
 obtain ⟨c',hc',h2⟩:=hb.c
 rw [hc] at hc';cases hc'
 have:=ha.g
 have:=hb.g
 have:=ha.a
 have:=hb.a
 exact ⟨by omega,by omega,by omega⟩
theorem Z1r {F:I→I→I} (hF:upF F) (ha:envOK u t a) (hb:envOK u t b):leE a (mrg F a b):=by
 obtain ⟨l1,l2,l3⟩:=ZPR ha hb
 exact ⟨rfl,ZQ5 hF l1 (fun x k=>(envV ha x k).1) fun x k=>(envV hb x k).1,ZQ5 hF l2 (fun x k=>(envG ha x k).1) fun x k=>(envG hb x k).1,ZQ5 hF l3 (fun x k=>(envA ha x k).1) fun x k=>(envA hb x k).1,Z39 ha.must hb.must,Z44 ha.may hb.may⟩
theorem Z1s {F:I→I→I} (hF:upF F) (ha:envOK u t a) (hb:envOK u t b):leE b (mrg F a b):=by
 obtain ⟨l1,l2,l3⟩:=ZPR ha hb
 exact ⟨rfl,ZQ6 hF l1 (fun x k=>(envV ha x k).1) fun x k=>(envV hb x k).1,ZQ6 hF l2 (fun x k=>(envG ha x k).1) fun x k=>(envG hb x k).1,ZQ6 hF l3 (fun x k=>(envA ha x k).1) fun x k=>(envA hb x k).1,Z0T ha.must hb.must,Z45 ha.may hb.may⟩
theorem ZKj {F:I→I→I} (hF:upF F) (ha1:a.1=true) (ha:envOK u t a) (hb:b.1=true→envOK u t b):leE a (eJoin F a b):=by
 unfold eJoin
 rw [ha1,cond_true]
 cases hb1:b.1
 ·exact ZNA ha1
 ·exact Z1r hF ha (hb hb1)
theorem ZKk {F:I→I→I} (hF:upF F) (ha:a.1=true→envOK u t a) (hb1:b.1=true) (hb:envOK u t b):leE b (eJoin F a b):=by
 unfold eJoin
 rw [hb1]
 cases ha1:a.1
 ·exact ZNA hb1
 ·exact Z1s hF (ha ha1) hb
def ZaM (u:U) (t:Int) (l:List En) (es:List E) (i:Nat) (d:A):Prop:=
 ∃ x y,es[d.2.2.2.2.2.2.2.1.toNat]? = some x∧es[d.2.2.2.2.2.2.2.2.toNat]? = some y∧leO (outV u t i ((es[i]?).getD offE) l).1 x∧leO (outV u t i ((es[i]?).getD offE) l).2.1 y
end
end
section
open Go.Proofs
def rdV (L:List I) (i:Int):I:=(L[i.toNat]?).getD nn
def notI (op:Int):Int:=(Zrc op).getD 0
def oV (u:U) (t n:Int) (e:E) (l:List En) (a:A):O:=
 match a with
 | (k,T,X,Y,G,N,op,nx,el)=>
  bif !e.1 then (offE,offE,[],[],[]) else
  bif k==1 then (setE e T (N,N),offE,[],[],[]) else
  bif k==2 then (setE e T (rdV e.2.1 X),offE,[],[],[]) else
  bif k==3 then (setE e T (-2147483648,2147483647),offE,[],[],[]) else
  bif k==4 then (bif empB (doI op (rdV e.2.1 X) (rdV e.2.1 Y)).1 then offE else setE e T (doI op (rdV e.2.1 X) (rdV e.2.1 Y)).1,offE,(bif (doI op (rdV e.2.1 X) (rdV e.2.1 Y)).2.1 then [7] else [])++(bif (doI op (rdV e.2.1 X) (rdV e.2.1 Y)).2.2 then [8] else []),[],[]) else
  bif k==5 then (setE e T (readV (rdV e.2.2.1 G) l t false G e.2.2.2.2.1),offE,[],[],[(t,n,false,G,false,e.2.2.2.2.1)]) else
  bif k==6 then ((e.1,e.2.1,e.2.2.1.set G.toNat (rdV e.2.1 X),e.2.2.2),offE,[],[(t,false,G,e.2.2.2.2.1,rdV e.2.1 X)],[(t,n,false,G,true,e.2.2.2.2.1)]) else
  bif k==7 then (bif empB (mSpan (rdV e.2.1 X) (0,(u.2.1[G.toNat]?).getD 0 - 1)) then offE else setE (setE e X (mSpan (rdV e.2.1 X) (0,(u.2.1[G.toNat]?).getD 0 - 1))) T (readV (rdV e.2.2.2.1 G) l t true G e.2.2.2.2.1),offE,(bif leqB (rdV e.2.1 X) (0,(u.2.1[G.toNat]?).getD 0 - 1) then [] else [9]),[],[(t,n,true,G,false,e.2.2.2.2.1)]) else
  bif k==8 then (bif empB (mSpan (rdV e.2.1 X) (0,(u.2.1[G.toNat]?).getD 0 - 1)) then offE else (e.1,e.2.1.set X.toNat (mSpan (rdV e.2.1 X) (0,(u.2.1[G.toNat]?).getD 0 - 1)),e.2.2.1,e.2.2.2.1.set G.toNat (rJoin (rdV e.2.2.2.1 G) (rdV (e.2.1.set X.toNat (mSpan (rdV e.2.1 X) (0,(u.2.1[G.toNat]?).getD 0 - 1))) Y)),e.2.2.2.2),offE,(bif leqB (rdV e.2.1 X) (0,(u.2.1[G.toNat]?).getD 0 - 1) then [] else [9]),[(t,true,G,e.2.2.2.2.1,rdV e.2.1 Y)],[(t,n,true,G,true,e.2.2.2.2.1)]) else
  bif k==9 then (bif tb e.2.2.2.2.1 G then offE else (e.1,e.2.1,gmap l t false e.2.2.2.2.1 G e.2.2.1,gmap l t true e.2.2.2.2.1 G e.2.2.2.1,wiI e.2.2.2.2.1 G,wiI e.2.2.2.2.2 G),offE,(bif tb e.2.2.2.2.2 G then [11] else []),[],[]) else
  bif k==10 then (bif tb e.2.2.2.2.2 G then (e.1,e.2.1,e.2.2.1,e.2.2.2.1,woI e.2.2.2.2.1 G,woI e.2.2.2.2.2 G) else offE,offE,(bif tb e.2.2.2.2.1 G then [] else [12]),[],[]) else
  bif k==11 then (sideV e X Y op (rdV e.2.1 X) (rdV e.2.1 Y),sideV e X Y (notI op) (rdV e.2.1 X) (rdV e.2.1 Y),[],[],[]) else
  bif k==12 then (e,offE,[],[],[]) else
  bif k==13 then (offE,offE,[10],[],[]) else (offE,offE,[],[],[])
theorem Zc3 {L:List I} {i:Int} {x:I} (h:L[i.toNat]? = some x):rdV L i=x:=by unfold rdV;rw [h];rfl
variable {u:U} {t n:Int} {e:E} {l:List En} {c:C}
theorem Z2E (hu:unitOK u) (ht:0≤t) (hl:tabOK l) (hn:l.length≤1000) (he:e.1=true→envOK u t e) (h1:0≤n) (hc:u.2.2.2[t.toNat]? = some c) {a:A} (ga:c.2[n.toNat]? = some a) :
  Za7 u t n e l=some (oV u t n e l a):=by
 have h2:n<(c.2.length:Int):=by have:=(List.getElem?_eq_some_iff.1 ga).1;omega
 cases he1:e.1
 ·obtain ⟨on,V,G,A,must,may⟩:=e
  cases he1
  have e0:decide (0≤t)=true:=decide_eq_true ht
  have e1:decide (0≤n)=true:=decide_eq_true h1
  unfold Za7
  rw [e0,hc,e1,cond_true,Zb,cond_true,ga,Zb]
  rfl
 have hE:=he he1
 have ha:=(hu.ts c (List.mem_of_getElem? hc)).a a (List.mem_of_getElem? ga)
 rw [ZS2 u t n e l c a ht hc h1 ga he1]
 have hle:=hl.e
 obtain ⟨cc,hc',hv⟩:=hE.c
 obtain rfl:cc=c:=by rw [hc] at hc';exact (Option.some.inj hc').symm
 have vx:∀ {X:Int},0≤X∧X<cc.1→∃ x,e.2.1[X.toNat]? = some x:=fun {X} h=>ZE e.2.1 X (by omega)
 have gx:∀ {G:Int},0≤G∧G<(u.1.length:Int)→∃ x,e.2.2.1[G.toNat]? = some x:=fun {G} h=>ZE e.2.2.1 G (by rw [hE.g];exact h)
 have ax:∀ {G:Int},0≤G∧G<(u.2.1.length:Int)→∃ x m,e.2.2.2.1[G.toNat]? = some x∧u.2.1[G.toNat]? = some m:=fun {G} h=>by
  obtain ⟨x,gx⟩:=ZE e.2.2.2.1 G (by rw [hE.a];exact h)
  obtain ⟨m,gm⟩:=ZE u.2.1 G h
  exact ⟨x,m,gx,gm⟩
 obtain ⟨k,T,X,Y,G,N,op,nx,el⟩:=a
 have k1:1≤k:=ha.k1
 have k2:k≤14:=ha.k2
 have hk:k=1∨k=2∨k=3∨k=4∨k=5∨k=6∨k=7∨k=8∨k=9∨k=10∨k=11∨k=12∨k=13∨k=14:=by omega
 rcases hk with rfl | rfl | rfl | rfl | rfl | rfl | rfl | rfl | rfl | rfl | rfl | rfl | rfl | rfl
 ·rw [ZS7 u t n e l cc T X Y G N op nx el hu hle hn hE hc ha]
  simp only [oV,he1,Bool.not_true,cond_false];rfl
 ·obtain ⟨x,g1⟩:=vx (Zs.1 ha.h2)
  rw [ZS8 u t n e l cc T X Y G N op nx el g1 hu hle hn hE hc ha]
  simp only [oV,he1,Bool.not_true,cond_false,Zc3 g1];rfl
 ·rw [ZS9 u t n e l cc T X Y G N op nx el hu hle hn hE hc ha]
  simp only [oV,he1,Bool.not_true,cond_false];rfl
 ·obtain ⟨x,g1⟩:=vx (Zs.1 ha.h2)
  obtain ⟨y,g2⟩:=vx (Zs.1 ha.h3)
  rw [ZTa u t n e l cc T X Y G N op nx el g1 g2 hu hle hn hE hc ha]
  simp only [oV,he1,Bool.not_true,cond_false,Zc3 g1,Zc3 g2];rfl
 ·obtain ⟨x,g1⟩:=gx (Zs.1 ha.h4)
  rw [ZTb u t n e l cc T X Y G N op nx el g1 hu hle hn hE hc ha]
  simp only [oV,he1,Bool.not_true,cond_false,Zc3 g1];rfl
 ·obtain ⟨x,g1⟩:=vx (Zs.1 ha.h2)
  rw [ZTc u t n e l cc T X Y G N op nx el g1 hu hle hn hE hc ha]
  simp only [oV,he1,Bool.not_true,cond_false,Zc3 g1];rfl
 ·obtain ⟨x,g1⟩:=vx (Zs.1 ha.h2)
  obtain ⟨d,m,g2,gm⟩:=ax (Zs.1 ha.h4)
  rw [ZTd u t n e l cc T X Y G N op nx el g1 gm g2 hu hle hn hE hc ha]
  simp only [oV,he1,Bool.not_true,cond_false,Zc3 g1,Zc3 g2,gm,Option.getD_some];rfl
 ·obtain ⟨x,g1⟩:=vx (Zs.1 ha.h2)
  obtain ⟨y,g3⟩:=vx (Zs.1 ha.h3)
  obtain ⟨d,m,g2,gm⟩:=ax (Zs.1 ha.h4)
  have hY:0≤Y∧Y<cc.1:=Zs.1 ha.h3
  obtain ⟨y',gy'⟩:=ZE (e.2.1.set X.toNat (mSpan x (0,m - 1))) Y (by rw [List.length_set];omega)
  rw [ZTe u t n e l cc T X Y G N op nx el g1 g3 gm g2 gy' hu hle hn hE hc ha]
  simp only [oV,he1,Bool.not_true,cond_false,Zc3 g1,Zc3 g2,Zc3 g3,gm,Option.getD_some,Zc3 gy'];rfl
 ·rw [ZTf u t n e l cc T X Y G N op nx el hu hle hn hE hc ha]
  simp only [oV,he1,Bool.not_true,cond_false];rfl
 ·rw [ZPC u t n e l cc T X Y G N op nx el hu hle hn hE hc ha]
  simp only [oV,he1,Bool.not_true,cond_false];rfl
 ·obtain ⟨x,g1⟩:=vx (Zs.1 ha.h2)
  obtain ⟨y,g2⟩:=vx (Zs.1 ha.h3)
  obtain ⟨w,n1⟩:=ZOS op
  have hw:notI op=w:=by unfold notI;rw [n1];rfl
  rw [ZPD u t n e l cc T X Y G N op nx el g1 g2 n1 hu hle hn hE hc ha]
  simp only [oV,he1,Bool.not_true,cond_false,Zc3 g1,Zc3 g2,hw];rfl
 ·rw [ZPE u t n e l cc T X Y G N op nx el hu hle hn hE hc ha]
  simp only [oV,he1,Bool.not_true,cond_false];rfl
 ·rw [ZPF u t n e l cc T X Y G N op nx el hu hle hn hE hc ha]
  simp only [oV,he1,Bool.not_true,cond_false];rfl
 ·rw [ZPG u t n e l cc T X Y G N op nx el hu hle hn hE hc ha]
  simp only [oV,he1,Bool.not_true,cond_false];rfl
theorem Z1y (a:A):((oV u t n e l a).1.1=true→a.1≠13∧a.1≠14)∧((oV u t n e l a).2.1.1=true→a.1=11):=by
 obtain ⟨k,T,X,Y,G,N,op,nx,el⟩:=a
 unfold oV
 cases e.1
 ·exact ⟨(fun h=>nomatch h),fun h=>nomatch h⟩
 simp only [Bool.not_true,cond_false]
 refine ⟨fun h=>⟨?_,?_⟩,fun h=>?_⟩
 ·rintro rfl;exact nomatch h
 ·rintro rfl;exact nomatch h
 ·by_cases q:k=11
  ·exact q
  ·have hq:(k==11)=false:=by simpa using q
   rw [hq] at h
   revert h
   cases k==1
   case true=>exact fun h=>nomatch h
   cases k==2
   case true=>exact fun h=>nomatch h
   cases k==3
   case true=>exact fun h=>nomatch h
   cases k==4
   case true=>exact fun h=>nomatch h
   cases k==5
   case true=>exact fun h=>nomatch h
   cases k==6
   case true=>exact fun h=>nomatch h
   cases k==7
   case true=>exact fun h=>nomatch h
   cases k==8
   case true=>exact fun h=>nomatch h
   cases k==9
   case true=>exact fun h=>nomatch h
   cases k==10
   case true=>exact fun h=>nomatch h
   cases k==12
   case true=>exact fun h=>nomatch h
   cases k==13<;>exact fun h=>nomatch h
end
section
open Go.Proofs
section
variable {u:U} {t:Int} {l l':List En} {st:List Int} {c:C}
theorem Z1B (hu:unitOK u) (ht:0≤t) (hl:tabOK l) (hn:l.length≤1000) (hc:u.2.2.2[t.toNat]? = some c) {e:E} (he:e.1=true→envOK u t e) {i:Nat} {d:A} (hd:c.2[i]? = some d):outV u t i e l=oV u t i e l d:=by
 unfold outV
 rw [Z2E hu ht hl hn he (n:=(i:Int)) (by omega) hc (by rw [Int.toNat_natCast];exact hd)]
 rfl
end
end
section
open Go.Proofs
theorem ZZ8 {a b:I} (ha:empB a=false) (hb:empB b=false) (h:leqB b a=true):iJoin a b=a:=by
 rw [QK] at h
 have ka:=ZL ha
 have kb:=ZL hb
 unfold iJoin
 rw [ha,hb]
 unfold sub at h
 obtain ⟨a1,a2⟩:=a
 obtain ⟨b1,b2⟩:=b
 simp only [Bool.false_eq_true,if_false] at *
 rw [Prod.mk.injEq]
 simp only [mn,mx]
 constructor<;>(repeat' split)<;>omega
theorem ZQ4 {a b:List I} (h:leR b a) (ha:∀ x∈a,empB x=false) (hb:∀ x∈b,empB x=false):zipI iJoin a b=a:=by
 apply List.ext_getElem?
 intro i
 unfold zipI
 rw [List.getElem?_mapIdx]
 cases e:a[i]? with
 | none=>rfl
 | some x=>
  have hi:i<b.length:=by rw [h.1];exact (List.getElem?_eq_some_iff.1 e).1
  have eb:b[i]? = some b[i]:=List.getElem?_eq_getElem hi
  rw [Option.map_some,ZEL eb,ZZ8 (ha x (List.mem_of_getElem? e)) (hb _ (List.getElem_mem hi)) (h.2 i _ _ eb e)]
theorem ZWi {x y:Int} (hx:okB x) (hy:okB y) (h:subB x y):andI x y=x:=by
 rw [Zur hx hy]
 have:x.toNat &&& y.toNat=x.toNat:=Nat.eq_of_testBit_eq fun i=>by
  rw [Nat.testBit_and]
  cases q:x.toNat.testBit i
  ·rfl
  ·rw [h i q];rfl
 rw [this]
 unfold okB at hx
 omega
theorem Z2X {x y:Int} (hx:okB x) (hy:okB y) (h:subB y x):orI x y=x:=by
 rw [ZLo hx hy]
 have:x.toNat ||| y.toNat=x.toNat:=Nat.eq_of_testBit_eq fun i=>by
  rw [Nat.testBit_or]
  cases q:y.toNat.testBit i
  ·rw [Bool.or_false]
  ·rw [h i q];rfl
 rw [this]
 unfold okB at hx
 omega
def comeF (to:Int) (e:E) (es:List E):List E:=bif e.1 then es.set to.toNat (eJoin iJoin ((es[to.toNat]?).getD offE) e) else es
section
variable {u:U} {t:Int} {l l':List En} {st:List Int} {c:C} {a b z:E}
theorem Z1q (ha:a.1=true) (oa:envOK u t a) (ob:envOK u t b) (h:leE b a):mrg iJoin a b=a:=by
 obtain ⟨on,V,G,A,m,y⟩:=a
 cases ha
 unfold mrg
 have e1:=ZQ4 h.v (fun x k=>(envV oa x k).2) fun x k=>(envV ob x k).2
 have e2:=ZQ4 h.g (fun x k=>(envG oa x k).2) fun x k=>(envG ob x k).2
 have e3:=ZQ4 h.a (fun x k=>(envA oa x k).2) fun x k=>(envA ob x k).2
 have e4:=ZWi oa.must ob.must h.must
 have e5:=Z2X oa.may ob.may h.may
 simp only at e1 e2 e3 e4 e5 ⊢
 rw [e1,e2,e3,e4,e5]
theorem ZRW (a:E):sameE a a=true:=by
 unfold sameE
 cases a.1<;>simp
theorem ZTu {fr to:Int} {e y:E} {es:List E} {ns:List Int} (oy:okE u t y) (oe:e.1=true→envOK u t e) (hf:e.1=true→fr<to) (g1:es[to.toNat]? = some y) (hl:ns.length=es.length) (h:leO e y):comeV st fr to e es ns=(false,es,ns):=by
 have h1:=(List.getElem?_eq_some_iff.1 g1).1
 have g2:ns[to.toNat]? = some (ns[to.toNat]'(by omega)):=List.getElem?_eq_getElem _
 generalize ns[to.toNat]'(by omega)=n at g2
 unfold comeV
 cases he1:e.1
 ·simp only [g1,g2]
 ·have k:=h he1
  have hn:nxtV st fr to y e n=y:=by
   unfold nxtV
   rw [if_neg (fun q=>by have:=hf he1;omega)]
   unfold eJoin
   rw [he1,k.on]
   exact Z1q k.on (oy.env k.on) (oe he1) k
  simp only [g1,g2,hn,ZRW,cond_true]
theorem ZWn {fr to:Int} {e:E} {es:List E} {ns:List Int} (hes:∀ x∈es,okE u t x) (oe:e.1=true→envOK u t e) (hf:e.1=true→fr<to) (h1:to.toNat<es.length) (hl:ns.length=es.length) :
  (comeV st fr to e es ns).2=(comeF to e es,ns):=by
 have g1:es[to.toNat]? = some es[to.toNat]:=List.getElem?_eq_getElem h1
 have g2:ns[to.toNat]? = some (ns[to.toNat]'(by omega)):=List.getElem?_eq_getElem _
 have ho:=hes _ (List.getElem_mem h1)
 generalize es[to.toNat]=old at g1 ho
 generalize ns[to.toNat]'(by omega)=n at g2
 unfold comeV comeF
 cases he1:e.1
 ·simp only [g1,g2];rfl
 ·have hx:=hf he1
  have hn:nxtV st fr to old e n=eJoin iJoin old e:=by
   unfold nxtV
   rw [if_neg (fun q=>by omega)]
  have on:(eJoin iJoin old e).1=true:=Zl4 he1
  simp only [g1,g2,hn,Option.getD_some,cond_true]
  cases q:sameE (eJoin iJoin old e) old
  ·simp only [cond_false,if_neg (show ¬ to≤fr by omega)]
  ·simp only [cond_true]
   rw [ZXb on q]
   have:es.set to.toNat old=es:=List.ext_getElem? fun i=>by
    by_cases w:to.toNat=i
    ·subst w;rw [List.getElem?_set_self h1,g1]
    ·rw [List.getElem?_set_ne w]
   rw [this]
theorem ZnI {to:Int} {e:E} {es:List E} (hes:∀ x∈es,okE u t x) (oe:e.1=true→envOK u t e) (h1:to.toNat<es.length) :
  (∀ x∈comeF to e es,okE u t x)∧(comeF to e es).length=es.length∧upL es (comeF to e es)∧(∀ i,i≠to.toNat→(comeF to e es)[i]? = es[i]?)∧((e.1=false→comeF to e es=es)∧∃ x,(comeF to e es)[to.toNat]? = some x∧leO e x):=by
 have g1:es[to.toNat]? = some es[to.toNat]:=List.getElem?_eq_getElem h1
 have ho:=hes _ (List.getElem_mem h1)
 unfold comeF
 cases he1:e.1
 ·rw [cond_false]
  exact ⟨hes,rfl,ZG9 _,fun i _=>rfl,fun _=>rfl,_,g1,fun k=>by rw [he1] at k;cases k⟩
 ·simp only [cond_true,g1,Option.getD_some]
  generalize es[to.toNat]=old at g1 ho
  have on:(eJoin iJoin old e).1=true:=Zl4 he1
  refine ⟨fun x hx=>?_,by simp,fun i x hx=>?_,fun i hi=>List.getElem?_set_ne (Ne.symm hi),(fun k=>nomatch k),_,List.getElem?_set_self h1,fun _=>ZKk ZAs ho.env he1 (oe he1)⟩
  ·rcases List.mem_or_eq_of_mem_set hx with k | rfl
   ·exact hes x k
   ·exact .inr ⟨on,ZnK ZzO ho.env oe on⟩
  ·by_cases q:to.toNat=i
   ·subst q
    rw [g1] at hx;cases hx
    exact ⟨_,List.getElem?_set_self h1,fun k=>ZKj ZAs k (ho.env k) oe⟩
   ·exact ⟨x,by rw [List.getElem?_set_ne q];exact hx,ZzI x⟩
end
end
section
open Go.Proofs
def fwd (c:C):Prop:=∀ (i:Nat) (d:A),c.2[i]? = some d→d.1≠13→d.1≠14→(i:Int)<d.2.2.2.2.2.2.2.1∧(d.1=11→(i:Int)<d.2.2.2.2.2.2.2.2)
def nodeF (u:U) (t:Int) (l:List En) (i:Nat) (es:List E) (d:A):List E:=
 comeF d.2.2.2.2.2.2.2.2 (outV u t i ((es[i]?).getD offE) l).2.1 (comeF d.2.2.2.2.2.2.2.1 (outV u t i ((es[i]?).getD offE) l).1 es)
def Zdv (u:U) (t:Int) (l:List En) (i:Nat) (r:List A) (es:List E):List E:=Qp (fun i es d=>nodeF u t l i es d) i r es
section
variable {u:U} {t:Int} {l l':List En} {st:List Int} {c:C}
theorem Z2Y (hu:unitOK u) (ht:0≤t) (hl:tabOK l) (hn:l.length≤1000) (hc:u.2.2.2[t.toNat]? = some c) (hf:fwd c) {e:E} (he:e.1=true→envOK u t e) {i:Nat} {d:A} (hd:c.2[i]? = some d) :
  ((outV u t i e l).1.1=true→(i:Int)<d.2.2.2.2.2.2.2.1)∧((outV u t i e l).2.1.1=true→(i:Int)<d.2.2.2.2.2.2.2.2):=by
 rw [Z1B hu ht hl hn hc he hd]
 obtain ⟨k1,k2⟩:=Z1y (u:=u) (t:=t) (n:=(i:Int)) (e:=e) (l:=l) d
 refine ⟨fun h=>(hf i d hd (k1 h).1 (k1 h).2).1,fun h=>?_⟩
 have:=k2 h
 exact (hf i d hd (by omega) (by omega)).2 this
theorem ZWZ (hu:unitOK u) (ht:0≤t) (hl:tabOK l) (hn:l.length≤1000) (hc:u.2.2.2[t.toNat]? = some c) (hf:fwd c) {b:Bool} {es:List E} {ns:List Int} (v:Inv u t c.2.length es ns) {i:Nat} {d:A} (hd:c.2[i]? = some d) :
  (nodeV u t l st i (b,es,ns) d).2=(nodeF u t l i es d,ns)∧(∀ x∈nodeF u t l i es d,okE u t x)∧(nodeF u t l i es d).length=es.length∧upL es (nodeF u t l i es d)∧(∀ j,j≤i→(nodeF u t l i es d)[j]? = es[j]?)∧ZaM u t l (nodeF u t l i es d) i d ∧
  (ZaM u t l es i d→nodeV u t l st i (b,es,ns) d=(b,es,ns)):=by
 have hi:=(List.getElem?_eq_some_iff.1 hd).1
 have ha:=(hu.ts c (List.mem_of_getElem? hc)).a d (List.mem_of_getElem? hd)
 have hx:=ha.nx
 have hy:=ha.el
 have ve:=v.le
 have vn:=v.ln
 have hie:i<es.length:=by omega
 have ge:es[i]? = some es[i]:=List.getElem?_eq_getElem hie
 have oe:=v.ok _ (List.getElem_mem hie)
 obtain ⟨_,_,o3,_⟩:=Zog hu ht hl hn hc oe hi
 obtain ⟨f1,f2⟩:=Z2Y hu ht hl hn hc hf oe.env hd
 have cl:∀ es',es'[i]? = es[i]?→(ZaM u t l es' i d↔∃ x y,es'[d.2.2.2.2.2.2.2.1.toNat]? = some x∧es'[d.2.2.2.2.2.2.2.2.toNat]? = some y∧leO (outV u t i es[i] l).1 x∧leO (outV u t i es[i] l).2.1 y):=fun es' h=>by
  unfold ZaM
  rw [h]
  simp only [ge,Option.getD_some]
 have c0:=cl es rfl
 have hN:nodeV u t l st i (b,es,ns) d=(b||(comeV st i d.2.2.2.2.2.2.2.1 (outV u t i es[i] l).1 es ns).1||(comeV st i d.2.2.2.2.2.2.2.2 (outV u t i es[i] l).2.1 (comeV st i d.2.2.2.2.2.2.2.1 (outV u t i es[i] l).1 es ns).2.1 (comeV st i d.2.2.2.2.2.2.2.1 (outV u t i es[i] l).1 es ns).2.2).1,
   (comeV st i d.2.2.2.2.2.2.2.2 (outV u t i es[i] l).2.1 (comeV st i d.2.2.2.2.2.2.2.1 (outV u t i es[i] l).1 es ns).2.1 (comeV st i d.2.2.2.2.2.2.2.1 (outV u t i es[i] l).1 es ns).2.2).2):=by
  unfold nodeV
  simp only [ge,Option.getD_some]
 have hF:nodeF u t l i es d=comeF d.2.2.2.2.2.2.2.2 (outV u t i es[i] l).2.1 (comeF d.2.2.2.2.2.2.2.1 (outV u t i es[i] l).1 es):=by
  unfold nodeF
  simp only [ge,Option.getD_some]
 rw [hN,hF]
 generalize outV u t i es[i] l=o at *
 clear hN hF
 obtain ⟨p1,p2,p3,p4,p5,x0,p6,p7⟩:=ZnI (to:=d.2.2.2.2.2.2.2.1) v.ok o3.nx (by omega)
 obtain ⟨q1,q2,q3,q4,q5,y0,q6,q7⟩:=ZnI (to:=d.2.2.2.2.2.2.2.2) p1 o3.el (by omega)
 have w1:=ZWn (st:=st) (fr:=(i:Int)) (to:=d.2.2.2.2.2.2.2.1) (ns:=ns) v.ok o3.nx f1 (by omega) (by omega)
 have w2:=ZWn (st:=st) (fr:=(i:Int)) (to:=d.2.2.2.2.2.2.2.2) (ns:=ns) p1 o3.el f2 (by omega) (by omega)
 have keep:∀ j,j≤i→(comeF d.2.2.2.2.2.2.2.2 o.2.1 (comeF d.2.2.2.2.2.2.2.1 o.1 es))[j]? = es[j]?:=fun j hj=>by
  have a1:(comeF d.2.2.2.2.2.2.2.1 o.1 es)[j]? = es[j]?:=by
   cases q:o.1.1
   ·rw [p5 q]
   ·have:=f1 q
    exact p4 j (by omega)
  rw [← a1]
  cases q:o.2.1.1
  ·rw [q5 q]
  ·have:=f2 q
   exact q4 j (by omega)
 refine ⟨?_,q1,q2.trans p2,ZBR p3 q3,keep,?_,fun h=>?_⟩
 ·rw [w1];exact w2
 ·rw [cl _ (keep i (Nat.le_refl _))]
  obtain ⟨x1,g1,l1⟩:=q3 _ _ p6
  exact ⟨x1,y0,g1,q6,Zrl p7 l1,q7⟩
 ·obtain ⟨x,y,gx,gy,lx,ly⟩:=c0.1 h
  have a1:=ZTu (st:=st) (fr:=(i:Int)) (v.ok x (List.mem_of_getElem? gx)) o3.nx f1 gx (by omega:ns.length=es.length) lx
  have a2:=ZTu (st:=st) (fr:=(i:Int)) (v.ok y (List.mem_of_getElem? gy)) o3.el f2 gy (by omega:ns.length=es.length) ly
  rw [a1,a2]
  cases b<;>rfl
theorem ZU0 (hu:unitOK u) (ht:0≤t) (hl:tabOK l) (hn:l.length≤1000) (hc:u.2.2.2[t.toNat]? = some c) (hf:fwd c):∀ (r:List A) (i:Nat) (b:Bool) (es:List E) (ns:List Int),c.2.drop i=r→Inv u t c.2.length es ns→(∀ (j:Nat) (d:A),j<i→c.2[j]? = some d→ZaM u t l es j d)→
  (Qp (fun i s d=>nodeV u t l st i s d) i r (b,es,ns)).2=(Zdv u t l i r es,ns)∧Inv u t c.2.length (Zdv u t l i r es) ns∧∀ (j:Nat) (d:A),c.2[j]? = some d→ZaM u t l (Zdv u t l i r es) j d
 | [],i,b,es,ns,hd,v,hC=>by
  refine ⟨rfl,v,fun j d hj=>hC j d ?_ hj⟩
  have:=(List.getElem?_eq_some_iff.1 hj).1
  have:c.2.length≤i:=by
   have:=congrArg List.length hd
   rw [List.length_drop] at this
   simp at this
   omega
  omega
 | d::r,i,b,es,ns,hd,v,hC=>by
  have e:c.2[i]? = some d:=by
   have:=congrArg (fun q=>q[0]?) hd
   simpa using this
  obtain ⟨n1,n2,n3,n4,n5,n6,_⟩:=ZWZ (st:=st) (b:=b) hu ht hl hn hc hf v e
  have ih:=ZU0 hu ht hl hn hc hf r (i+1) (nodeV u t l st i (b,es,ns) d).1 (nodeF u t l i es d) ns (by rw [← List.drop_drop,hd];rfl) ⟨n2,n3.trans v.le,v.ln⟩ (fun j d' hj hd'=>?_)
  ·rw [Qp]
   have:nodeV u t l st i (b,es,ns) d=((nodeV u t l st i (b,es,ns) d).1,nodeF u t l i es d,ns):=Prod.ext rfl n1
   rw [this]
   exact ih
  ·by_cases q:j=i
   ·subst q
    rw [e] at hd';cases hd'
    exact n6
   ·obtain ⟨x,y,gx,gy,lx,ly⟩:=hC j d' (by omega) hd'
    obtain ⟨x1,gx1,lx1⟩:=n4 _ _ gx
    obtain ⟨y1,gy1,ly1⟩:=n4 _ _ gy
    unfold ZaM
    rw [n5 j (by omega)]
    exact ⟨x1,y1,gx1,gy1,Zrl lx lx1,Zrl ly ly1⟩
theorem ZMN (hu:unitOK u) (ht:0≤t) (hl:tabOK l) (hn:l.length≤1000) (hc:u.2.2.2[t.toNat]? = some c) (hf:fwd c) {es:List E} {ns:List Int} (v:Inv u t c.2.length es ns) (hC:∀ (j:Nat) (d:A),c.2[j]? = some d→ZaM u t l es j d):∀ (r:List A) (i:Nat) (b:Bool),c.2.drop i=r→
  Qp (fun i s d=>nodeV u t l st i s d) i r (b,es,ns)=(b,es,ns)
 | [],i,b,hd=>rfl
 | d::r,i,b,hd=>by
  have e:c.2[i]? = some d:=by
   have:=congrArg (fun q=>q[0]?) hd
   simpa using this
  rw [Qp,(ZWZ (st:=st) (b:=b) hu ht hl hn hc hf v e).2.2.2.2.2.2 (hC i d e)]
  exact ZMN hu ht hl hn hc hf v hC r (i+1) b (by rw [← List.drop_drop,hd];rfl)
theorem ZYu (hu:unitOK u) (ht:0≤t) (hl:tabOK l) (hn:l.length≤1000) (hc:u.2.2.2[t.toNat]? = some c) (hf:fwd c):(endV u t l st c).1=Zdv u t l 0 c.2 (es0 u c)∧(endV u t l st c).2.2.2=true∧Inv u t c.2.length (Zdv u t l 0 c.2 (es0 u c)) (ns0 c):=by
 obtain ⟨r1,r2,r3⟩:=ZU0 (st:=st) hu ht hl hn hc hf c.2 0 false (es0 u c) (ns0 c) rfl (ZXI hu hc) (fun j d h=>absurd h (by omega))
 have r1:(ZX u t l st c (es0 u c) (ns0 c)).2=(Zdv u t l 0 c.2 (es0 u c),ns0 c):=r1
 have s:=fun b=>ZMN (st:=st) hu ht hl hn hc hf r2 r3 c.2 0 b rfl
 have s:ZX u t l st c (Zdv u t l 0 c.2 (es0 u c)) (ns0 c)=(false,Zdv u t l 0 c.2 (es0 u c),ns0 c):=s false
 have e:endV u t l st c=runV u t l st c 99 (ZX u t l st c (es0 u c) (ns0 c)).2.1 (ZX u t l st c (es0 u c) (ns0 c)).2.2 1 (!(ZX u t l st c (es0 u c) (ns0 c)).1):=rfl
 rw [r1] at e
 cases q:(ZX u t l st c (es0 u c) (ns0 c)).1
 ·rw [q] at e
  have e:endV u t l st c=(Zdv u t l 0 c.2 (es0 u c),ns0 c,1,true):=e
  rw [e]
  exact ⟨rfl,rfl,r2⟩
 ·rw [q] at e
  have e:endV u t l st c=runV u t l st c 98 (ZX u t l st c (Zdv u t l 0 c.2 (es0 u c)) (ns0 c)).2.1 (ZX u t l st c (Zdv u t l 0 c.2 (es0 u c)) (ns0 c)).2.2 2 (!(ZX u t l st c (Zdv u t l 0 c.2 (es0 u c)) (ns0 c)).1):=e
  rw [s] at e
  have e:endV u t l st c=(Zdv u t l 0 c.2 (es0 u c),ns0 c,2,true):=e
  rw [e]
  exact ⟨rfl,rfl,r2⟩
end
end
section
open Go.Proofs Go.Proofs.YtbdcblpjemmipaaGreat
def Z5R:List Sh:=[.dat (.int .i64),.dat (.int .i64),.dat (.int .i64)]
def Z5W:List Con:=[]
def Z5Y (a0 a1 a2:Int):Option Bool:=
 bif a0==1 then some (decide (a1<a2))
 else
 bif a0==2 then some (decide (a1≤a2))
 else
 bif a0==3 then some (a1==a2)
 else
 bif a0==4 then some (a1 !=a2) else bif a0==5 then some (decide (a1≥a2)) else bif a0==6 then some (decide (a1>a2)) else some false
theorem Z53 (a0 a1 a2:Int):evGX (cxU Z5W [] 40 1048576) keeps 8 34 Z5R (.dat .bool) ((a0,a1,a2,()):(Int×(Int×(Int×Unit))))=Z5Y a0 a1 a2:=by kernel_rfl
def Z57 (x:(Int×(Int×(Int×Unit)))):Option Bool:=Z5Y x.1 x.2.1 x.2.2.1
def Z50:List AV→Prog AV:=conP true Z5R (.dat .bool) Z57
theorem Z6f:Zd Tryz.prog 34 Z50:=Zc (calU Z5W [] 40 1048576 8 34) true (by rfl) (by rfl) (fun x r e=>(Zg _ _ _ _ _ _ _).trans ((Z53 x.1 x.2.1 x.2.2.1).trans e)) (.inl rfl)
end
section
open Go.Proofs
def actQ (u:U) (c:C) (a:A):Bool:=
 decide (1≤a.1)&&(decide (a.1≤14)&&((a.1==1||a.2.2.2.2.2.1==0)&&(inB a.2.2.2.2.2.2.2.1 (c.2.length:Int)&&(inB a.2.2.2.2.2.2.2.2 (c.2.length:Int)&&((a.1==11||a.2.2.2.2.2.2.2.2==0)&&((a.1 !=4||(decide (1≤a.2.2.2.2.2.2.1)&&decide (a.2.2.2.2.2.2.1≤5)))&&((a.1 !=11||(decide (1≤a.2.2.2.2.2.2.1)&&decide (a.2.2.2.2.2.2.1≤6))) &&
  ((a.1==4||(a.1==11||a.2.2.2.2.2.2.1==0))&&(hasV a.1 1 a.2.1 c.1&&(hasV a.1 2 a.2.2.1 c.1&&(hasV a.1 3 a.2.2.2.1 c.1&&hasV a.1 4 a.2.2.2.2.1 (gBd u a.1))))))))))))
theorem Z6d {u:U} {c:C} {a:A} (h:actQ u c a=true) (hf:fitB a.2.2.2.2.2.1=true):actOK u c a:=by
 unfold actQ at h
 simp only [Bool.and_eq_true,Bool.or_eq_true,decide_eq_true_eq,beq_iff_eq,bne_iff_ne,ne_eq,inB] at h
 obtain ⟨h1,h2,h3,h4,h5,h6,h7,h8,h9,h10,h11,h12,h13⟩:=h
 exact ⟨h1,h2,hf,fun k=>h3.resolve_left k,h4,h5,fun k=>h6.resolve_left k,fun k=>h7.resolve_left (fun q=>q k),fun k=>h8.resolve_left (fun q=>q k),fun k k'=>(h9.resolve_left k).resolve_left k',h10,h11,h12,h13⟩
def codeQ (u:U) (c:C):Bool:=decide (0≤c.1)&&(decide (c.1≤40)&&(decide (1≤c.2.length)&&(decide (c.2.length≤60)&&((c.2[c.2.length - 1]?).elim false (fun a=>a.1==14)&&c.2.all (actQ u c)))))
def unitQ (u:U):Bool:=decide (u.1.length≤6)&&(decide (u.2.1.length≤3)&&(decide (0≤u.2.2.1)&&(decide (u.2.2.1≤6)&&(decide (1≤u.2.2.2.length)&&(decide (u.2.2.2.length≤4)&&(u.2.1.all (fun n=>decide (1≤n)&&decide (n≤16))&&u.2.2.2.all (codeQ u)))))))
theorem Z6c {u:U} (h:unitQ u=true) (hg:∀ n∈u.1,fitB n=true) (hf:∀ c∈u.2.2.2,∀ a∈c.2,fitB a.2.2.2.2.2.1=true):unitOK u:=by
 unfold unitQ at h
 simp only [Bool.and_eq_true,decide_eq_true_eq,List.all_eq_true] at h
 obtain ⟨h1,h2,h3,h4,h5,h6,h7,h8⟩:=h
 refine ⟨h1,h2,⟨h3,h4⟩,⟨h5,h6⟩,hg,h7,fun c hc=>?_⟩
 have k:=h8 c hc
 unfold codeQ at k
 simp only [Bool.and_eq_true,decide_eq_true_eq,List.all_eq_true] at k
 obtain ⟨k1,k2,k3,k4,k5,k6⟩:=k
 refine ⟨⟨k1,k2⟩,⟨k3,k4⟩,?_,fun a ha=>Z6d (k6 a ha) (hf c hc a ha)⟩
 cases q:c.2[c.2.length - 1]? with
 | none=>rw [q] at k5;cases k5
 | some a=>rw [q] at k5;exact ⟨a,rfl,by simpa using k5⟩
def fwdB (c:C):Bool:=allIx (fun i d=>d.1==13||(d.1==14||(decide ((i:Int)<d.2.2.2.2.2.2.2.1)&&(d.1 !=11||decide ((i:Int)<d.2.2.2.2.2.2.2.2))))) 0 c.2
theorem Z6e {c:C} (h:fwdB c=true):fwd c:=fun i d hd h13 h14=>by
 have k:=(ZvJ.1 h) i d hd
 rw [Nat.zero_add] at k
 simp only [Bool.or_eq_true,Bool.and_eq_true,decide_eq_true_eq,beq_iff_eq,bne_iff_ne,ne_eq] at k
 have k:=(k.resolve_left h13).resolve_left h14
 exact ⟨k.1,fun q=>k.2.resolve_left fun w=>w q⟩
def stepF (u:U) (t:Int) (l:List En) (i:Nat) (es:List E) (d:A):List E:=comeF d.2.2.2.2.2.2.2.2 (oV u t (i:Int) ((es[i]?).getD offE) l d).2.1 (comeF d.2.2.2.2.2.2.2.1 (oV u t (i:Int) ((es[i]?).getD offE) l d).1 es)
def gatS (u:U) (t:Int) (l:List En) (es:List E) (i:Nat) (s:Ga) (d:A):Ga:=gatN t i s (oV u t (i:Int) ((es[i]?).getD offE) l d)
section
variable {u:U} {t:Int} {l:List En} {c:C}
theorem Z6a (hu:unitOK u) (ht:0≤t) (hl:tabOK l) (hn:l.length≤1000) (hc:u.2.2.2[t.toNat]? = some c) (hf:fwd c) {es:List E} {ns:List Int} (v:Inv u t c.2.length es ns) {i:Nat} {d:A} (hd:c.2[i]? = some d) :
  nodeF u t l i es d=comeF d.2.2.2.2.2.2.2.2 (oV u t i ((es[i]?).getD offE) l d).2.1 (comeF d.2.2.2.2.2.2.2.1 (oV u t i ((es[i]?).getD offE) l d).1 es)∧Inv u t c.2.length (nodeF u t l i es d) ns:=by
 obtain ⟨_,n2,n3,_⟩:=ZWZ (st:=[]) (b:=false) hu ht hl hn hc hf v hd
 have hi:=(List.getElem?_eq_some_iff.1 hd).1
 have hie:i<es.length:=by rw [v.le];exact hi
 have ge:es[i]? = some es[i]:=List.getElem?_eq_getElem hie
 refine ⟨?_,n2,n3.trans v.le,v.ln⟩
 unfold nodeF
 rw [ge,Option.getD_some,Z1B hu ht hl hn hc (v.ok _ (List.getElem_mem hie)).env hd]
theorem Z51 (hu:unitOK u) (ht:0≤t) (hl:tabOK l) (hn:l.length≤1000) (hc:u.2.2.2[t.toNat]? = some c) (hf:fwd c):∀ (r:List A) (i:Nat) (es:List E) (ns:List Int),c.2.drop i=r→Inv u t c.2.length es ns→
  Zdv u t l i r es=Qp (stepF u t l) i r es
 | [],i,es,ns,hd,v=>rfl
 | d::r,i,es,ns,hd,v=>by
  have e:c.2[i]? = some d:=by
   have:=congrArg (fun q=>q[0]?) hd
   simpa using this
  obtain ⟨h1,h2⟩:=Z6a hu ht hl hn hc hf v e
  rw [Qp,show stepF u t l i es d=nodeF u t l i es d from h1.symm]
  exact Z51 hu ht hl hn hc hf r (i+1) _ ns (by rw [← List.drop_drop,hd];rfl) h2
theorem Z56 (hu:unitOK u) (ht:0≤t) (hl:tabOK l) (hn:l.length≤1000) (hc:u.2.2.2[t.toNat]? = some c) {es:List E} {ns:List Int} (v:Inv u t c.2.length es ns):∀ (r:List A) (i:Nat) (s:Ga),c.2.drop i=r→
  gatV u t l es i r s=Qp (gatS u t l es) i r s
 | [],i,s,hd=>rfl
 | d::r,i,s,hd=>by
  have e:c.2[i]? = some d:=by
   have:=congrArg (fun q=>q[0]?) hd
   simpa using this
  have hi:=(List.getElem?_eq_some_iff.1 e).1
  have hie:i<es.length:=by rw [v.le];exact hi
  have ge:es[i]? = some es[i]:=List.getElem?_eq_getElem hie
  have hV:gatV u t l es i (d::r) s=gatV u t l es (i+1) r (gatN t i s (outV u t i ((es[i]?).getD offE) l)):=rfl
  rw [hV,Qp]
  unfold gatS
  rw [ge,Option.getD_some,Z1B hu ht hl hn hc (v.ok _ (List.getElem_mem hie)).env e]
  exact Z56 hu ht hl hn hc v r (i+1) _ (by rw [← List.drop_drop,hd];rfl)
theorem Z6b (hu:unitOK u) (ht:0≤t) (hl:tabOK l) (hn:l.length≤1000) (hc:u.2.2.2[t.toNat]? = some c) (hf:fwd c) {es:List E} {ga:Ga} (he:Qp (stepF u t l) 0 c.2 (es0 u c)=es)
  (hg:Qp (gatS u t l es) 0 c.2 ([],[],[])=ga):∃ r,Zrb u t l=some (es,ga.1,ga.2.1,ga.2.2,r,true)∧resV u t l (ZJ u) c=(es,ga.1,ga.2.1,ga.2.2,r,true):=by
 obtain ⟨r1,_,v,g⟩:=ZuY hu ht hl hn hc
 obtain ⟨f1,f2,f3⟩:=ZYu (st:=ZJ u) hu ht hl hn hc hf
 have e1:(endV u t l (ZJ u) c).1=es:=by rw [f1,Z51 hu ht hl hn hc hf c.2 0 (es0 u c) (ns0 c) rfl (ZXI hu hc),he]
 have e2:gatE u t l (ZJ u) c=ga:=by
  unfold gatE
  rw [Z56 hu ht hl hn hc v c.2 0 ([],[],[]) rfl,e1,hg]
 have e3:resV u t l (ZJ u) c=(es,ga.1,ga.2.1,ga.2.2,(endV u t l (ZJ u) c).2.2.1,true):=by
  unfold resV
  rw [e1,e2,f2]
 exact ⟨_,by rw [r1,e3],e3⟩
end
end
section
open Go.Proofs Go.Proofs.YtbdcblpjemmipaaGreat
def Z6q:List Sh:=[.dat (.int .i64),.dat (.int .i64),.dat (.int .i64)]
def Z6r:List Con:=[⟨31,ZlP,Zqp⟩,⟨24,Zhu,Zl7⟩,⟨34,Z50,Z6f⟩,⟨26,Zd1,Zhm⟩]
def Z6o (a0 a1 a2:Int):Option Bool:=
 optC (Zn (a0,())) none fun d4=>
 bif !d4 then some true
 else
 optC (Zn (a1,())) none fun d5=>
 bif !d5 then some true
 else
 bif decide (a2<1) then some true
 else
 bif decide (a2>6) then some true
 else
 optC
 (ZaX
 (([3],[4],2,
 [(2,
 [(1,0,0,0,0,a0,0,IntKind.i64.wrap (0+1),0)]++[(1,1,0,0,0,a1,0,IntKind.i64.wrap (IntKind.i64.wrap (0+1)+1),0)] ++
 [(11,0,0,1,0,0,a2,4,3)] ++
 [(13,0,0,0,0,0,0,3,0)] ++
 [(12,0,0,0,0,0,0,IntKind.i64.wrap (IntKind.i64.wrap (IntKind.i64.wrap (IntKind.i64.wrap (IntKind.i64.wrap (0+1)+1)+1)+1)+1),0)] ++
 [(14,0,0,0,0,0,0,
 (↑((([(1,0,0,0,0,a0,0,0,0),(1,1,0,0,0,a1,0,0,0),(11,0,0,1,0,0,a2,4,3),(13,0,0,0,0,0,0,3,0),(12,0,0,0,0,0,0,0,0)].set
 (Int.toNat (0:Int)) (1,0,0,0,0,a0,0,IntKind.i64.wrap (0+1),0)).set
 (IntKind.i64.wrap (0+1)).toNat (1,1,0,0,0,a1,0,IntKind.i64.wrap (IntKind.i64.wrap (0+1)+1),0)).set
 (IntKind.i64.wrap (IntKind.i64.wrap (IntKind.i64.wrap (IntKind.i64.wrap (0+1)+1)+1)+1)).toNat
 (12,0,0,0,0,0,0,IntKind.i64.wrap (IntKind.i64.wrap (IntKind.i64.wrap (IntKind.i64.wrap (IntKind.i64.wrap (0+1)+1)+1)+1)+1),
 0)).length :
 Int),
 0)])]),
 0,[],()))
 none fun d6=>
 bif !d6.2.2.2.2.2 then some false
 else
 bif (↑(List.length d6.1):Int) !=6 then some false
 else
 optC (Z57 (a2,a0,a1,())) none fun d7=>
 optC d6.1[Int.toNat 4]? none fun d8=>
 bif d8.1==d7 then
 optC d6.1[Int.toNat 3]? none fun d9=>
 bif d9.1 == !d7 then
 optC d6.1[Int.toNat 5]? none fun d10=>
 bif d10.1==d7 then
 bif ((↑(List.length d6.2.2.2.1):Int)==0)==d7 then optC (ZO ()) none fun d11=>some d11 else some false
 else some false
 else some false
 else some false
theorem Z6v (a0 a1 a2:Int):evGX (cxU Z6r [] 40 (1048576 ^ 9)) keeps 8 10 Z6q (.dat .bool) ((a0,a1,a2,()):(Int×(Int×(Int×Unit))))=Z6o a0 a1 a2:=by kernel_rfl
def Z6w (x:(Int×(Int×(Int×Unit)))):Option Bool:=Z6o x.1 x.2.1 x.2.2.1
def Z6u:List AV→Prog AV:=conP true Z6q (.dat .bool) Z6w
theorem Z6D:Zd Tryz.prog 10 Z6u:=Zc (calU Z6r [] 40 (1048576 ^ 9) 8 10) true (by rfl) (by rfl) (fun x r e=>(Zg _ _ _ _ _ _ _).trans ((Z6v x.1 x.2.1 x.2.2.1).trans e)) (.inl rfl)
end
theorem Z6p (a:Int):empB (a,a)=false:=by simp [empB]
theorem Z6z (a b:Int) (c d:I):both (a,a) (b,b) c d=if empB c||empB d then (nn,nn) else (c,d):=by
 unfold both
 rw [Z6p,Z6p];rfl
theorem Z6t {a b:Int} {c d:I} (h:c=(a,a)) (k:d=(b,b)):both (a,a) (b,b) c d=((a,a),(b,b)):=by
 subst h;subst k
 rw [Z6z,Z6p,Z6p];rfl
theorem Z6s {a b:Int} {c d:I} (h:empB c=true):empB (both (a,a) (b,b) c d).1=true:=by
 rw [Z6z,h];rfl
theorem Z6C {r a b:Int} (hr:r=1∨r=2∨r=3∨r=4∨r=5∨r=6) :
  (relR r a b=true→refI r (a,a) (b,b)=((a,a),(b,b)))∧(relR r a b=false→empB (refI r (a,a) (b,b)).1=true):=by
 have mnl:∀ {x y:Int},x≤y→mn x y=x:=fun h=>by unfold mn;rw [if_neg (by omega)]
 have mnr:∀ {x y:Int},y≤x→mn x y=y:=fun h=>by unfold mn;split<;>omega
 have mxl:∀ {x y:Int},y≤x→mx x y=x:=fun h=>by unfold mx;rw [if_neg (by omega)]
 have mxr:∀ {x y:Int},x≤y→mx x y=y:=fun h=>by unfold mx;split<;>omega
 have em:∀ {x y:Int},y<x→empB (x,y)=true:=fun h=>by unfold empB;exact decide_eq_true h
 rcases hr with rfl | rfl | rfl | rfl | rfl | rfl
 ·refine ⟨fun h=>?_,fun h=>?_⟩
  ·have h:=of_decide_eq_true h
   exact Z6t (Prod.ext rfl (mnl (by omega))) (Prod.ext (mxl (by omega)) rfl)
  ·have h:=of_decide_eq_false h
   exact Z6s (by show empB (a,mn a (b - 1))=true;rw [mnr (by omega)];exact em (by omega))
 ·refine ⟨fun h=>?_,fun h=>?_⟩
  ·have h:=of_decide_eq_true h
   exact Z6t (Prod.ext rfl (mnl (by omega))) (Prod.ext (mxl (by omega)) rfl)
  ·have h:=of_decide_eq_false h
   exact Z6s (by show empB (a,mn a b)=true;rw [mnr (by omega)];exact em (by omega))
 ·refine ⟨fun h=>?_,fun h=>?_⟩
  ·have h:(a==b)=true:=h
   rw [beq_iff_eq] at h
   subst h
   have e:iMeet (a,a) (a,a)=(a,a):=by
    unfold iMeet
    rw [Z6p]
    simp only [Bool.false_eq_true,if_false,mxl (Int.le_refl a),mnl (Int.le_refl a),Z6p]
   exact Z6t e e
  ·have h:(a==b)=false:=h
   have h:a≠b:=by simpa using h
   refine Z6s ?_
   unfold iMeet
   rw [Z6p,Z6p]
   simp only [Bool.false_eq_true,if_false]
   by_cases q:a<b
   ·rw [mxr (by omega),mnl (by omega),if_pos (em q)];rfl
   ·rw [mxl (by omega),mnr (by omega),if_pos (em (by omega))];rfl
 ·refine ⟨fun h=>?_,fun h=>?_⟩
  ·have h:(a !=b)=true:=h
   have h:a≠b:=by simpa using h
   refine Z6t ?_ ?_
   ·unfold wout
    rw [if_pos rfl,if_neg h,if_neg h]
   ·unfold wout
    rw [if_pos rfl,if_neg (Ne.symm h),if_neg (Ne.symm h)]
  ·have h:(a !=b)=false:=h
   have h:a=b:=by simpa using h
   subst h
   refine Z6s ?_
   unfold wout
   rw [if_pos rfl,if_pos rfl]
   exact em (by omega)
 ·refine ⟨fun h=>?_,fun h=>?_⟩
  ·have h:=of_decide_eq_true h
   exact Z6t (Prod.ext (mxl (by omega)) rfl) (Prod.ext rfl (mnl (by omega)))
  ·have h:=of_decide_eq_false h
   exact Z6s (by show empB (mx a b,a)=true;rw [mxr (by omega)];exact em (by omega))
 ·refine ⟨fun h=>?_,fun h=>?_⟩
  ·have h:=of_decide_eq_true h
   exact Z6t (Prod.ext (mxl (by omega)) rfl) (Prod.ext rfl (mnl (by omega)))
  ·have h:=of_decide_eq_false h
   exact Z6s (by show empB (mx a (b+1),a)=true;rw [mxr (by omega)];exact em (by omega))
theorem Z6F {r a b:Int} (hr:r=1∨r=2∨r=3∨r=4∨r=5∨r=6):relR (if r=1 then 5 else if r=2 then 6 else if r=3 then 4 else if r=4 then 3 else if r=5 then 1 else 2) a b = !relR r a b:=by
 rcases hr with rfl | rfl | rfl | rfl | rfl | rfl
 ·show decide (a≥b) = !decide (a<b)
  by_cases h:a<b
  ·rw [decide_eq_true h,decide_eq_false (by omega)];rfl
  ·rw [decide_eq_false h,decide_eq_true (by omega)];rfl
 ·show decide (a>b) = !decide (a≤b)
  by_cases h:a≤b
  ·rw [decide_eq_true h,decide_eq_false (by omega)];rfl
  ·rw [decide_eq_false h,decide_eq_true (by omega)];rfl
 ·rfl
 ·show (a==b) = !(a !=b)
  cases h:a==b<;>simp [bne,h]
 ·show decide (a<b) = !decide (a≥b)
  by_cases h:a<b
  ·rw [decide_eq_true h,decide_eq_false (by omega)];rfl
  ·rw [decide_eq_false h,decide_eq_true (by omega)];rfl
 ·show decide (a≤b) = !decide (a>b)
  by_cases h:a≤b
  ·rw [decide_eq_true h,decide_eq_false (by omega)];rfl
  ·rw [decide_eq_false h,decide_eq_true (by omega)];rfl
theorem Z6y (r a b:Int) (hr:r=1∨r=2∨r=3∨r=4∨r=5∨r=6):Z5Y r a b=some (relR r a b):=by
 rcases hr with rfl | rfl | rfl | rfl | rfl | rfl<;>rfl
theorem Z6E {r:Int} (hr:r=1∨r=2∨r=3∨r=4∨r=5∨r=6):notI r=(if r=1 then 5 else if r=2 then 6 else if r=3 then 4 else if r=4 then 3 else if r=5 then 1 else 2)∧(notI r=1∨notI r=2∨notI r=3∨notI r=4∨notI r=5∨notI r=6):=by
 rcases hr with rfl | rfl | rfl | rfl | rfl | rfl
 ·exact ⟨rfl,.inr (.inr (.inr (.inr (.inl rfl))))⟩
 ·exact ⟨rfl,.inr (.inr (.inr (.inr (.inr rfl))))⟩
 ·exact ⟨rfl,.inr (.inr (.inr (.inl rfl)))⟩
 ·exact ⟨rfl,.inr (.inr (.inl rfl))⟩
 ·exact ⟨rfl,.inl rfl⟩
 ·exact ⟨rfl,.inr (.inl rfl)⟩
def nvC (a b r:Int):C:=(2,[(1,0,0,0,0,a,0,1,0),(1,1,0,0,0,b,0,2,0),(11,0,0,1,0,0,r,4,3),(13,0,0,0,0,0,0,3,0),(12,0,0,0,0,0,0,5,0),(14,0,0,0,0,0,0,5,0)])
def nvU (a b r:Int):U:=([3],[4],2,[nvC a b r])
theorem Z6H {a b r:Int} (fa:fitB a=true) (fb:fitB b=true) (hr:r=1∨r=2∨r=3∨r=4∨r=5∨r=6):unitOK (nvU a b r)∧fwd (nvC a b r):=by
 refine ⟨Z6c ?_ (fun n hn=>by rw [List.mem_singleton.1 hn];rfl) fun c hc x hx=>?_,Z6e ?_⟩
 ·rcases hr with rfl | rfl | rfl | rfl | rfl | rfl<;>rfl
 ·rw [List.mem_singleton.1 hc] at hx
  simp only [nvC,List.mem_cons,List.not_mem_nil,or_false] at hx
  rcases hx with rfl | rfl | rfl | rfl | rfl | rfl
  ·exact fa
  ·exact fb
  ·rfl
  ·rfl
  ·rfl
  ·rfl
 ·rcases hr with rfl | rfl | rfl | rfl | rfl | rfl<;>rfl
def Z6m:E:=(true,[(0,0),(0,0)],[(3,3)],[(0,0)],0,0)
def Z6n (a:Int):E:=(true,[(a,a),(0,0)],[(3,3)],[(0,0)],0,0)
def Z6l (a b:Int):E:=(true,[(a,a),(b,b)],[(3,3)],[(0,0)],0,0)
theorem Z6G (a b r:Int):oV (nvU a b r) 0 2 (Z6l a b) [] (11,0,0,1,0,0,r,4,3)=(sideV (Z6l a b) 0 1 r (a,a) (b,b),sideV (Z6l a b) 0 1 (notI r) (a,a) (b,b),[],[],[]):=rfl
theorem Z6x {a b r:Int} (h:refI r (a,a) (b,b)=((a,a),(b,b))):sideV (Z6l a b) 0 1 r (a,a) (b,b)=Z6l a b:=by
 unfold sideV
 rw [h]
 show (bif empB (a,a) then offE else bif empB (b,b) then offE else _)=_
 rw [Z6p,Z6p]
 rfl
theorem Z6A {a b r:Int} (h:empB (refI r (a,a) (b,b)).1=true):sideV (Z6l a b) 0 1 r (a,a) (b,b)=offE:=by
 unfold sideV
 show (bif empB (refI r (a,a) (b,b)).1 then offE else _)=_
 rw [h]
 rfl
theorem Z6B {a b r:Int} (fa:fitB a=true) (fb:fitB b=true) (hr:r=1∨r=2∨r=3∨r=4∨r=5∨r=6) {X Y:E} {al:List Int} (o2:oV (nvU a b r) 0 2 (Z6l a b) [] (11,0,0,1,0,0,r,4,3)=(X,Y,[],[],[]))
  (h2:comeF 3 Y (comeF 4 X [Z6m,Z6n a,Z6l a b,offE,offE,offE])=[Z6m,Z6n a,Z6l a b,Y,X,offE]) (h3:oV (nvU a b r) 0 3 Y [] (13,0,0,0,0,0,0,3,0)=(offE,offE,al,[],[]))
  (h4:oV (nvU a b r) 0 4 X [] (12,0,0,0,0,0,0,5,0)=(X,offE,[],[],[])) (h4':comeF 5 X [Z6m,Z6n a,Z6l a b,Y,X,offE]=[Z6m,Z6n a,Z6l a b,Y,X,X]) (h5:oV (nvU a b r) 0 5 X [] (14,0,0,0,0,0,0,5,0)=(offE,offE,[],[],[])) :
  ∃ q,Zrb (nvU a b r) 0 []=some ([Z6m,Z6n a,Z6l a b,Y,X,X],[],[],al.map (fun e=>((1,0,3,e,0,0):Al)),q,true):=by
 obtain ⟨hu,hf⟩:=Z6H fa fb hr
 have he:Qp (stepF (nvU a b r) 0 []) 0 (nvC a b r).2 (es0 (nvU a b r) (nvC a b r))=[Z6m,Z6n a,Z6l a b,Y,X,X]:=by
  have s0:stepF (nvU a b r) 0 [] 0 (es0 (nvU a b r) (nvC a b r)) (1,0,0,0,0,a,0,1,0)=[Z6m,Z6n a,offE,offE,offE,offE]:=rfl
  have s1:stepF (nvU a b r) 0 [] 1 [Z6m,Z6n a,offE,offE,offE,offE] (1,1,0,0,0,b,0,2,0)=[Z6m,Z6n a,Z6l a b,offE,offE,offE]:=rfl
  have s2:stepF (nvU a b r) 0 [] 2 [Z6m,Z6n a,Z6l a b,offE,offE,offE] (11,0,0,1,0,0,r,4,3)=[Z6m,Z6n a,Z6l a b,Y,X,offE]:=by
   show comeF 3 (oV _ _ 2 (Z6l a b) _ _).2.1 (comeF 4 (oV _ _ 2 (Z6l a b) _ _).1 _)=_
   rw [o2]
   exact h2
  have s3:stepF (nvU a b r) 0 [] 3 [Z6m,Z6n a,Z6l a b,Y,X,offE] (13,0,0,0,0,0,0,3,0)=[Z6m,Z6n a,Z6l a b,Y,X,offE]:=by
   show comeF 0 (oV _ _ 3 Y _ _).2.1 (comeF 3 (oV _ _ 3 Y _ _).1 _)=_
   rw [h3]
   rfl
  have s4:stepF (nvU a b r) 0 [] 4 [Z6m,Z6n a,Z6l a b,Y,X,offE] (12,0,0,0,0,0,0,5,0)=[Z6m,Z6n a,Z6l a b,Y,X,X]:=by
   show comeF 0 (oV _ _ 4 X _ _).2.1 (comeF 5 (oV _ _ 4 X _ _).1 _)=_
   rw [h4]
   exact h4'
  have s5:stepF (nvU a b r) 0 [] 5 [Z6m,Z6n a,Z6l a b,Y,X,X] (14,0,0,0,0,0,0,5,0)=[Z6m,Z6n a,Z6l a b,Y,X,X]:=by
   show comeF 0 (oV _ _ 5 X _ _).2.1 (comeF 5 (oV _ _ 5 X _ _).1 _)=_
   rw [h5]
   rfl
  show stepF _ _ _ 5 (stepF _ _ _ 4 (stepF _ _ _ 3 (stepF _ _ _ 2 (stepF _ _ _ 1 (stepF _ _ _ 0 _ _) _) _) _) _) _=_
  rw [s0,s1,s2,s3,s4,s5]
 have hg:Qp (gatS (nvU a b r) 0 [] [Z6m,Z6n a,Z6l a b,Y,X,X]) 0 (nvC a b r).2 ([],[],[])=([],[],al.map (fun e=>((1,0,3,e,0,0):Al))):=by
  have s0:gatS (nvU a b r) 0 [] [Z6m,Z6n a,Z6l a b,Y,X,X] 0 ([],[],[]) (1,0,0,0,0,a,0,1,0)=([],[],[]):=rfl
  have s1:gatS (nvU a b r) 0 [] [Z6m,Z6n a,Z6l a b,Y,X,X] 1 ([],[],[]) (1,1,0,0,0,b,0,2,0)=([],[],[]):=rfl
  have s2:gatS (nvU a b r) 0 [] [Z6m,Z6n a,Z6l a b,Y,X,X] 2 ([],[],[]) (11,0,0,1,0,0,r,4,3)=([],[],[]):=by
   show gatN 0 2 ([],[],[]) (oV _ _ 2 (Z6l a b) _ _)=_
   rw [o2]
   rfl
  have s3:gatS (nvU a b r) 0 [] [Z6m,Z6n a,Z6l a b,Y,X,X] 3 ([],[],[]) (13,0,0,0,0,0,0,3,0)=([],[],al.map (fun e=>((1,0,3,e,0,0):Al))):=by
   show gatN 0 3 _ (oV _ _ 3 Y _ _)=_
   rw [h3]
   rfl
  have s4:gatS (nvU a b r) 0 [] [Z6m,Z6n a,Z6l a b,Y,X,X] 4 ([],[],al.map (fun e=>((1,0,3,e,0,0):Al))) (12,0,0,0,0,0,0,5,0)=([],[],al.map (fun e=>((1,0,3,e,0,0):Al))):=by
   show gatN 0 4 _ (oV _ _ 4 X _ _)=_
   rw [h4]
   exact congrArg (fun q:List Al=>(([],[],q):Ga)) (List.append_nil _)
  have s5:gatS (nvU a b r) 0 [] [Z6m,Z6n a,Z6l a b,Y,X,X] 5 ([],[],al.map (fun e=>((1,0,3,e,0,0):Al))) (14,0,0,0,0,0,0,5,0)=([],[],al.map (fun e=>((1,0,3,e,0,0):Al))):=by
   show gatN 0 5 _ (oV _ _ 5 X _ _)=_
   rw [h5]
   exact congrArg (fun q:List Al=>(([],[],q):Ga)) (List.append_nil _)
  show gatS _ _ _ _ 5 (gatS _ _ _ _ 4 (gatS _ _ _ _ 3 (gatS _ _ _ _ 2 (gatS _ _ _ _ 1 (gatS _ _ _ _ 0 _ _) _) _) _) _) _=_
  rw [s0,s1,s2,s3,s4,s5]
 obtain ⟨z,h,_⟩:=Z6b (u:=nvU a b r) (t:=0) (l:=[]) (c:=nvC a b r) hu (by decide) Z5a (by decide) rfl hf he hg
 exact ⟨z,h⟩
theorem Z6I (a b r:Int):Z6o a b r=some true:=by
 unfold Z6o
 simp only [Zn,Qq,Zb]
 cases fa:fitB a
 ·rfl
 cases fb:fitB b
 ·rfl
 by_cases h1:r<1
 ·rw [decide_eq_true h1];rfl
 by_cases h2:r>6
 ·rw [decide_eq_false h1,decide_eq_true h2];rfl
 rw [decide_eq_false h1,decide_eq_false h2]
 simp only [Bool.not_true,cond_false]
 show optC (Zrb (nvU a b r) 0 []) none _=_
 have hr:r=1∨r=2∨r=3∨r=4∨r=5∨r=6:=by omega
 have rl:=Z6y r a b hr
 have o2:=Z6G a b r
 obtain ⟨w1,w2⟩:=Z6E hr
 have p1:=Z6C (a:=a) (b:=b) hr
 have p2:=Z6C (a:=a) (b:=b) w2
 have rn:relR (notI r) a b = !relR r a b:=by rw [w1];exact Z6F hr
 cases hq:relR r a b
 ·rw [hq] at rn
  rw [Z6A (p1.2 hq),Z6x (p2.1 rn)] at o2
  obtain ⟨q,h⟩:=Z6B fa fb hr (X:=offE) (Y:=Z6l a b) (al:=[10]) o2 rfl rfl rfl rfl rfl
  simp only [h,Zb,Z57,rl,hq,ZO,ZyT]
  rfl
 ·rw [hq] at rn
  rw [Z6x (p1.1 hq),Z6A (p2.2 rn)] at o2
  obtain ⟨q,h⟩:=Z6B fa fb hr (X:=Z6l a b) (Y:=offE) (al:=[]) o2 rfl rfl rfl rfl rfl
  simp only [h,Zb,Z57,rl,hq,ZO,ZyT]
  rfl
end
end Go.Proofs.YtbdcblpjemmipaaGreat.Ex
