/- A part of the proofs of what is known of threads: GFixLine0. -/
import Derived.Test.YtbdcblpjemmipaaGreatGA
import Derived.Test.YtbdcblpjemmipaaGreatGC
import Derived.Test.YtbdcblpjemmipaaGreatGF
import Derived.Test.YtbdcblpjemmipaaGreatGG
import Derived.Test.YtbdcblpjemmipaaGreatGH
import Derived.Test.YtbdcblpjemmipaaGreatGI
namespace Go.Proofs.YtbdcblpjemmipaaGreat.Ex
open Go.Proofs
set_option maxRecDepth 100000
set_option maxHeartbeats 4000000
set_option linter.unusedVariables false
set_option linter.unusedSimpArgs false
set_option linter.unusedSectionVars false
noncomputable section
section
def doR (op a b:Int):Int×Int:=
 if !fitB a || !fitB b||decide (op<1)||decide (op>5) then (0,1) else if decide (op≥4)&&b==0 then (0,8) else
 let n:=if op=1 then a+b else if op=2 then a - b else if op=3 then a*b else if op=4 then a.tdiv b else a.tmod b
 if fitB n then (n,0) else (0,7)
theorem ZKi (x y:I):leqB x (iJoin x y)=true:=by
 simp only [leqB,iJoin,empB,nn,mn,mx,Bool.or_eq_true,Bool.and_eq_true,decide_eq_true_eq]
 (repeat' split)<;>simp_all<;>(try (repeat' split))<;>omega
theorem Zg6 (x y:I):iJoin x y=iJoin y x:=by
 simp only [iJoin,empB,nn,mn,mx,decide_eq_true_eq]
 (repeat' split)<;>simp_all<;>(try omega)
theorem Zl5 {a b c d:Int} (hx:a≤b) (hy:c≤d):iMeet (a,b) (c,d)=if a≤d∧c≤b then (mx a c,mn b d) else nn:=by
 unfold iMeet
 rw [Z0 hx,Z0 hy]
 simp only [Bool.false_eq_true,if_false]
 by_cases h:a≤d∧c≤b
 ·rw [if_pos h,Z0 (by unfold mx mn;omega)];simp
 ·rw [if_neg h,Zoy (by unfold mx mn;omega)];simp
section
variable {a b c d:Int} (hx:a≤b) (hy:c≤d)
include hx hy
omit hx hy in
end
theorem ZuL {a b n:Int}:hasB (a,b) n=true↔a≤n∧n≤b:=by simp [hasB]
theorem ZOJ {a b c d:Int} (h:c≤a) (k:b≤d):leqB (a,b) (c,d)=true:=by simp [leqB];omega
theorem ZLk {x:I} {n:Int} (h:x.1≤n∧n≤x.2):(fitB n=true→hasB (iMeet x aa) n=true)∧(fitB n=false→(!leqB x aa)=true):=by
 obtain ⟨a,b⟩:=x
 simp only at h
 constructor
 ·intro hf
  have hf:=W9.1 hf
  have hab:a≤b:=by omega
  show hasB (iMeet (a,b) (-2147483648,2147483647)) n=true
  rw [Zl5 hab (by decide),if_pos (by omega)]
  exact ZuL.2 (by unfold mx mn;omega)
 ·intro hf
  have hf:¬ (-2147483648≤n∧n≤2147483647):=fun k=>by rw [W9.2 k] at hf;cases hf
  have hab:empB (a,b)=false:=Z0 (by omega)
  show (!(empB (a,b)||(decide (a≥-2147483648)&&decide (b≤2147483647))))=true
  rw [hab]
  simp only [Bool.false_or,Bool.not_eq_true',Bool.and_eq_false_iff,decide_eq_false_iff_not]
  omega
theorem ZWR (n:Int):mn n n=n:=by unfold mn;split<;>rfl
theorem ZWV (n:Int):mx n n=n:=by unfold mx;split<;>rfl
theorem ZYz (n:Int):ZbQ (n,n)=if fitB n then ((n,n),false,false) else (nn,true,false):=by
 unfold ZbQ
 rw [show iMeet (n,n) aa=iMeet (n,n) (-2147483648,2147483647) from rfl,Zl5 (Int.le_refl n) (by decide)]
 by_cases h : -2147483648≤n∧n≤2147483647
 ·rw [if_pos (by omega),if_pos (W9.2 h),show leqB (n,n) aa=true from ZOJ h.1 h.2]
  rw [show mx n (-2147483648)=n by unfold mx;split<;>omega,show mn n 2147483647=n by unfold mn;split<;>omega]
  rfl
 ·have hf:fitB n=false:=by cases e:fitB n with | false=>rfl | true=>exact absurd (W9.1 e) h
  have:=(ZLk (x:=(n,n)) (n:=n) (by simp)).2 hf
  rw [if_neg (by omega),if_neg (by rw [hf];decide),this]
theorem Z1t (a b:Int):ZuP (a,a) (b,b)=(a*b,a*b):=by simp only [ZuP,ZWR,ZWV]
theorem ZWr (a b:Int):KP (a,a) (b,b)=(a.tdiv b,a.tdiv b):=by simp only [KP,ZWR,ZWV]
def ZY2 (d:Int×Int) (r:R3):Prop:=
 (d.2=0∧fitB d.1=true∧r=((d.1,d.1),false,false))∨(d.2=7∧r=(nn,true,false))∨(d.2=8∧r=(nn,false,true))
theorem ZOK {b c d:Int} (h:c≤b∧b≤d):iMeet (b,b) (c,d)=(b,b):=by
 rw [Zl5 (Int.le_refl b) (by omega),if_pos (by omega)]
 unfold mx mn
 simp only [Prod.mk.injEq]
 constructor<;>split<;>omega
theorem ZME {b c d:Int} (k:c≤d) (h:¬ (c≤b∧b≤d)):iMeet (b,b) (c,d)=nn:=by
 rw [Zl5 (Int.le_refl b) k,if_neg (by omega)]
theorem ZMB (n:Int):iJoin nn (ZbQ (n,n)).1=(ZbQ (n,n)).1:=by
 rw [ZYz]
 split
 ·exact Zrf (Int.le_refl n)
 ·rfl
theorem Z47 (op:Int) (h1:1≤op) (h2:op≤4) {p q:Int} (fp:fitB p=true) (fq:fitB q=true):ZY2 (doR op p q) (doI op (p,p) (q,q)):=by
 have ho:op=1∨op=2∨op=3∨op=4:=by omega
 have ex:empB (p,p)=false:=Z0 (Int.le_refl p)
 have ey:empB (q,q)=false:=Z0 (Int.le_refl q)
 have fin:∀ n:Int,ZY2 (if fitB n then (n,0) else (0,7)) (ZbQ (n,n)):=by
  intro n
  rw [ZYz]
  cases hn:fitB n with
  | true=>exact .inl ⟨rfl,hn,rfl⟩
  | false=>exact .inr (.inl ⟨rfl,rfl⟩)
 rcases ho with rfl | rfl | rfl | rfl
 ·have e1:doR 1 p q=if fitB (p+q) then (p+q,0) else (0,7):=by simp [doR,fp,fq]
  have e2:doI 1 (p,p) (q,q)=ZbQ (p+q,p+q):=by simp [doI,ex,ey]
  rw [e1,e2];exact fin _
 ·have e1:doR 2 p q=if fitB (p - q) then (p - q,0) else (0,7):=by simp [doR,fp,fq]
  have e2:doI 2 (p,p) (q,q)=ZbQ (p - q,p - q):=by simp [doI,ex,ey]
  rw [e1,e2];exact fin _
 ·have e1:doR 3 p q=if fitB (p*q) then (p*q,0) else (0,7):=by simp [doR,fp,fq]
  have e2:doI 3 (p,p) (q,q)=ZbQ (p*q,p*q):=by simp [doI,ex,ey,Z1t]
  rw [e1,e2];exact fin _
 ·have e2:doI 4 (p,p) (q,q)=((quoV (p,p) (q,q)).1,(quoV (p,p) (q,q)).2,hasB (q,q) 0):=by simp [doI,ex,ey]
  have hq:=W9.1 fq
  by_cases h0:q=0
  ·subst h0
   have e1:doR 4 p 0=(0,8):=by simp [doR,fp,fq]
   rw [e1,e2];exact .inr (.inr ⟨rfl,rfl⟩)
  ·have e1:doR 4 p q=if fitB (p.tdiv q) then (p.tdiv q,0) else (0,7):=by simp [doR,fp,fq,h0]
   have e3:hasB (q,q) 0=false:=by simp [hasB];omega
   have e4:quoV (p,p) (q,q)=((ZbQ (p.tdiv q,p.tdiv q)).1,(ZbQ (p.tdiv q,p.tdiv q)).2.1):=by
    by_cases hs:0<q
    ·have a1:iMeet (q,q) pM=nn:=ZME (by decide) (by omega)
     have a2:iMeet (q,q) pP=(q,q):=ZOK (by omega)
     unfold quoV Zs9
     rw [a1,a2,ey,if_pos (show empB nn=true from rfl),if_neg (show ¬ (false=true) by decide),ZWr]
     show (iJoin nn (ZbQ (p.tdiv q,p.tdiv q)).1,_)=_
     rw [ZMB];rfl
    ·have a1:iMeet (q,q) pP=nn:=ZME (by decide) (by omega)
     have a2:iMeet (q,q) pM=(q,q):=ZOK (by omega)
     unfold quoV Zs9
     rw [a1,a2,ey,if_neg (show ¬ (false=true) by decide),if_pos (show empB nn=true from rfl),ZWr]
     show (iJoin nn (ZbQ (p.tdiv q,p.tdiv q)).1,_)=_
     rw [ZMB];rfl
   have e5:∀ n:Int,(ZbQ (n,n))=((ZbQ (n,n)).1,(ZbQ (n,n)).2.1,false):=fun n=>rfl
   rw [e1,e2,e3,e4,← e5]
   exact fin _
theorem YA {x y z:I} (h:leqB x y=true) (k:leqB y z=true):leqB x z=true:=by
 rw [QK] at *;unfold sub at *;omega
theorem ZWL (x y:I):leqB y (iJoin x y)=true:=by rw [Zg6];exact ZKi y x
end
section
open Go.Proofs Go.Proofs.YtbdcblpjemmipaaGreat
def ZJB:List Sh:=[.dat (.int .i64)]
def ZM5:List Con:=[]
def ZOC (a0:Int):Option I:=
 some (a0,a0)
theorem ZUJ (a0:Int):evGX (cxU ZM5 [] 40 1048576) keeps 8 20 ZJB (.dat tI) ((a0,()):(Int×Unit))=ZOC a0:=by kernel_rfl
def ZXw (x:Int×Unit):Option I:=ZOC x.1
def Zzr:List AV→Prog AV:=conP true ZJB (.dat tI) ZXw
theorem ZKR:Zd Tryz.prog 20 Zzr:=Zc (calU ZM5 [] 40 1048576 8 20) true (by rfl) (by rfl) (fun x r e=>(Zg _ _ _ _ _ _ _).trans ((ZUJ x.1).trans e)) (.inl rfl)
end
theorem Zhz (x:I):leqB x x=true:=by rw [QK];unfold sub;omega
theorem ZNB (a:List I):leR a a:=⟨rfl,fun i x y hx hy=>by rw [hx] at hy;cases hy;exact Zhz x⟩
def upF (f:I→I→I):Prop:=∀ u v,isB u=true→isB v=true→leqB u (f u v)=true∧leqB v (f u v)=true
theorem ZAs:upF iJoin:=fun u v _ _=>⟨ZKi u v,ZWL u v⟩
section
open Go.Proofs
variable {u:U} {t:Int} {a b:E}
theorem Z0A {a b:E} (ha:a.1=true) (hb:b.1=true) (h:sameE a b=true):a=b:=by
 unfold sameE at h
 rw [ha,hb] at h
 simp only [Bool.and_true,cond_true,Bool.and_eq_true,decide_eq_true_eq,beq_iff_eq] at h
 obtain ⟨on,V,G,A,must,may⟩:=a
 obtain ⟨on',V',G',A',must',may'⟩:=b
 cases ha;cases hb
 obtain ⟨rfl,rfl,rfl,rfl,rfl⟩:=h
 rfl
end
section
open Go.Proofs
theorem ZKl {a b c:List I} (h:leR a b) (k:leR b c):leR a c:=by
 refine ⟨h.1.trans k.1,fun i x z hx hz=>?_⟩
 have hi:i<a.length:=(List.getElem?_eq_some_iff.1 hx).1
 have hy:b[i]? = some (b[i]'(by rw [← h.1];exact hi)):=List.getElem?_eq_getElem _
 exact YA (h.2 i x _ hx hy) (k.2 i _ z hy hz)
theorem ZPA {a b c:Int} (h:subB a b) (k:subB b c):subB a c:=fun i q=>k i (h i q)
theorem ZR4 (a:Int):subB a a:=fun i q=>q
theorem ZNA {x:E} (h:x.1=true):leE x x:=⟨h,ZNB _,ZNB _,ZNB _,ZR4 _,ZR4 _⟩
theorem ZRB {x y z:E} (h:leE x y) (k:leE y z):leE x z:=⟨k.on,ZKl h.v k.v,ZKl h.g k.g,ZKl h.a k.a,ZPA k.must h.must,ZPA h.may k.may⟩
theorem ZzI (x:E):leO x x:=fun h=>ZNA h
theorem Zrl {x y z:E} (h:leO x y) (k:leO y z):leO x z:=fun q=>ZRB (h q) (k (h q).on)
theorem Zur {x y:Int} (hx:okB x) (hy:okB y):andI x y=((x.toNat &&& y.toNat:Nat):Int):=by
 unfold okB at *
 have h:=ZFn (a:=x.toNat) (b:=y.toNat) (by omega) (by omega)
 rw [show ((x.toNat:Nat):Int)=x by omega,show ((y.toNat:Nat):Int)=y by omega] at h
 exact h
theorem ZLo {x y:Int} (hx:okB x) (hy:okB y):orI x y=((x.toNat ||| y.toNat:Nat):Int):=by
 unfold okB at *
 have h:=ZUr (a:=x.toNat) (b:=y.toNat) (by omega) (by omega)
 rw [show ((x.toNat:Nat):Int)=x by omega,show ((y.toNat:Nat):Int)=y by omega] at h
 exact h
theorem Z39 {x y:Int} (hx:okB x) (hy:okB y):subB (andI x y) x:=fun i q=>by
 rw [Zur hx hy,Int.toNat_natCast,Nat.testBit_and,Bool.and_eq_true] at q
 exact q.1
theorem Z0T {x y:Int} (hx:okB x) (hy:okB y):subB (andI x y) y:=fun i q=>by
 rw [Zur hx hy,Int.toNat_natCast,Nat.testBit_and,Bool.and_eq_true] at q
 exact q.2
theorem Z44 {x y:Int} (hx:okB x) (hy:okB y):subB x (orI x y):=fun i q=>by
 rw [ZLo hx hy,Int.toNat_natCast,Nat.testBit_or,q,Bool.true_or]
theorem Z45 {x y:Int} (hx:okB x) (hy:okB y):subB y (orI x y):=fun i q=>by
 rw [ZLo hx hy,Int.toNat_natCast,Nat.testBit_or,q,Bool.or_true]
theorem ZVt {F:I→I→I} {a b:List I} {i:Nat} {z:I} (h:(zipI F a b)[i]? = some z):∃ x,a[i]? = some x∧z=F x (rowAt b i):=by
 unfold zipI at h
 rw [List.getElem?_mapIdx] at h
 cases e:a[i]? with
 | none=>rw [e] at h;cases h
 | some x=>rw [e] at h;exact ⟨x,rfl,(Option.some.inj h).symm⟩
theorem ZEL {b:List I} {i:Nat} {y:I} (h:b[i]? = some y):rowAt b i=y:=by unfold rowAt;rw [h];rfl
theorem ZQ5 {F:I→I→I} (hF:upF F) {a b:List I} (hl:a.length=b.length) (ha:∀ x∈a,isB x=true) (hb:∀ x∈b,isB x=true):leR a (zipI F a b):=by
 refine ⟨(ZyV F a b).symm,fun i x z hx hz=>?_⟩
 obtain ⟨x',h1,rfl⟩:=ZVt hz
 rw [hx] at h1;cases h1
 have hi:i<b.length:=by rw [← hl];exact (List.getElem?_eq_some_iff.1 hx).1
 rw [ZEL (List.getElem?_eq_getElem hi)]
 exact (hF x b[i] (ha x (List.mem_of_getElem? hx)) (hb _ (List.getElem_mem hi))).1
theorem ZQ6 {F:I→I→I} (hF:upF F) {a b:List I} (hl:a.length=b.length) (ha:∀ x∈a,isB x=true) (hb:∀ x∈b,isB x=true):leR b (zipI F a b):=by
 refine ⟨by rw [ZyV,hl],fun i y z hy hz=>?_⟩
 obtain ⟨x,h1,rfl⟩:=ZVt hz
 rw [ZEL hy]
 exact (hF x y (ha x (List.mem_of_getElem? h1)) (hb y (List.mem_of_getElem? hy))).2
def upL (es es':List E):Prop:=∀ (i:Nat) (x:E),es[i]? = some x→∃ y,es'[i]? = some y∧leO x y
theorem ZG9 (es:List E):upL es es:=fun i x h=>⟨x,h,ZzI x⟩
theorem ZBR {a b c:List E} (h:upL a b) (k:upL b c):upL a c:=fun i x hx=>by
 obtain ⟨y,hy,q⟩:=h i x hx
 obtain ⟨z,hz,w⟩:=k i y hy
 exact ⟨z,hz,Zrl q w⟩
theorem ZXb {a b:E} (ha:a.1=true) (h:sameE a b=true):a=b:=by
 cases hb:b.1
 ·unfold sameE at h
  rw [ha,hb] at h
  have h':(true==false)=true:=h
  exact absurd h' (by decide)
 ·exact Z0A ha hb h
section
variable {u:U} {t:Int} {l:List En} {st:List Int} {c:C} {a b:E}
theorem ZPR (ha:envOK u t a) (hb:envOK u t b):a.2.1.length=b.2.1.length∧a.2.2.1.length=b.2.2.1.length∧a.2.2.2.1.length=b.2.2.2.1.length:=by
 obtain ⟨c,hc,h1⟩:=ha.c
 obtain ⟨c',hc',h2⟩:=hb.c
 rw [hc] at hc';cases hc'
 have:=ha.g
 have:=hb.g
 have:=ha.a
 have:=hb.a
 exact ⟨by omega,by omega,by omega⟩
theorem Z1r {F:I→I→I} (hF:upF F) (ha:envOK u t a) (hb:envOK u t b):leE a (mrg F a b):=by
 obtain ⟨l1,l2,l3⟩:=ZPR ha hb
 exact ⟨rfl,ZQ5 hF l1 (fun x k=>(envV ha x k).1) fun x k=>(envV hb x k).1,ZQ5 hF l2 (fun x k=>(envG ha x k).1) fun x k=>(envG hb x k).1,ZQ5 hF l3 (fun x k=>(envA ha x k).1) fun x k=>(envA hb x k).1,Z39 ha.must hb.must,Z44 ha.may hb.may⟩
theorem Z1s {F:I→I→I} (hF:upF F) (ha:envOK u t a) (hb:envOK u t b):leE b (mrg F a b):=by
 obtain ⟨l1,l2,l3⟩:=ZPR ha hb
 exact ⟨rfl,ZQ6 hF l1 (fun x k=>(envV ha x k).1) fun x k=>(envV hb x k).1,ZQ6 hF l2 (fun x k=>(envG ha x k).1) fun x k=>(envG hb x k).1,ZQ6 hF l3 (fun x k=>(envA ha x k).1) fun x k=>(envA hb x k).1,Z0T ha.must hb.must,Z45 ha.may hb.may⟩
theorem ZKj {F:I→I→I} (hF:upF F) (ha1:a.1=true) (ha:envOK u t a) (hb:b.1=true→envOK u t b):leE a (eJoin F a b):=by
 unfold eJoin
 rw [ha1,cond_true]
 cases hb1:b.1
 ·exact ZNA ha1
 ·exact Z1r hF ha (hb hb1)
theorem ZKk {F:I→I→I} (hF:upF F) (ha:a.1=true→envOK u t a) (hb1:b.1=true) (hb:envOK u t b):leE b (eJoin F a b):=by
 unfold eJoin
 rw [hb1]
 cases ha1:a.1
 ·exact ZNA hb1
 ·exact Z1s hF (ha ha1) hb
def ZaM (u:U) (t:Int) (l:List En) (es:List E) (i:Nat) (d:A):Prop:=
 ∃ x y,es[d.2.2.2.2.2.2.2.1.toNat]? = some x∧es[d.2.2.2.2.2.2.2.2.toNat]? = some y∧leO (outV u t i ((es[i]?).getD offE) l).1 x∧leO (outV u t i ((es[i]?).getD offE) l).2.1 y
end
end
section
open Go.Proofs
def rdV (L:List I) (i:Int):I:=(L[i.toNat]?).getD nn
def notI (op:Int):Int:=(Zrc op).getD 0
def oV (u:U) (t n:Int) (e:E) (l:List En) (a:A):O:=
 match a with
 | (k,T,X,Y,G,N,op,nx,el)=>
  bif !e.1 then (offE,offE,[],[],[]) else
  bif k==1 then (setE e T (N,N),offE,[],[],[]) else
  bif k==2 then (setE e T (rdV e.2.1 X),offE,[],[],[]) else
  bif k==3 then (setE e T (-2147483648,2147483647),offE,[],[],[]) else
  bif k==4 then (bif empB (doI op (rdV e.2.1 X) (rdV e.2.1 Y)).1 then offE else setE e T (doI op (rdV e.2.1 X) (rdV e.2.1 Y)).1,offE,(bif (doI op (rdV e.2.1 X) (rdV e.2.1 Y)).2.1 then [7] else [])++(bif (doI op (rdV e.2.1 X) (rdV e.2.1 Y)).2.2 then [8] else []),[],[]) else
  bif k==5 then (setE e T (readV (rdV e.2.2.1 G) l t false G e.2.2.2.2.1),offE,[],[],[(t,n,false,G,false,e.2.2.2.2.1)]) else
  bif k==6 then ((e.1,e.2.1,e.2.2.1.set G.toNat (rdV e.2.1 X),e.2.2.2),offE,[],[(t,false,G,e.2.2.2.2.1,rdV e.2.1 X)],[(t,n,false,G,true,e.2.2.2.2.1)]) else
  bif k==7 then (bif empB (mSpan (rdV e.2.1 X) (0,(u.2.1[G.toNat]?).getD 0 - 1)) then offE else setE (setE e X (mSpan (rdV e.2.1 X) (0,(u.2.1[G.toNat]?).getD 0 - 1))) T (readV (rdV e.2.2.2.1 G) l t true G e.2.2.2.2.1),offE,(bif leqB (rdV e.2.1 X) (0,(u.2.1[G.toNat]?).getD 0 - 1) then [] else [9]),[],[(t,n,true,G,false,e.2.2.2.2.1)]) else
  bif k==8 then (bif empB (mSpan (rdV e.2.1 X) (0,(u.2.1[G.toNat]?).getD 0 - 1)) then offE else (e.1,e.2.1.set X.toNat (mSpan (rdV e.2.1 X) (0,(u.2.1[G.toNat]?).getD 0 - 1)),e.2.2.1,e.2.2.2.1.set G.toNat (rJoin (rdV e.2.2.2.1 G) (rdV (e.2.1.set X.toNat (mSpan (rdV e.2.1 X) (0,(u.2.1[G.toNat]?).getD 0 - 1))) Y)),e.2.2.2.2),offE,(bif leqB (rdV e.2.1 X) (0,(u.2.1[G.toNat]?).getD 0 - 1) then [] else [9]),[(t,true,G,e.2.2.2.2.1,rdV e.2.1 Y)],[(t,n,true,G,true,e.2.2.2.2.1)]) else
  bif k==9 then (bif tb e.2.2.2.2.1 G then offE else (e.1,e.2.1,gmap l t false e.2.2.2.2.1 G e.2.2.1,gmap l t true e.2.2.2.2.1 G e.2.2.2.1,wiI e.2.2.2.2.1 G,wiI e.2.2.2.2.2 G),offE,(bif tb e.2.2.2.2.2 G then [11] else []),[],[]) else
  bif k==10 then (bif tb e.2.2.2.2.2 G then (e.1,e.2.1,e.2.2.1,e.2.2.2.1,woI e.2.2.2.2.1 G,woI e.2.2.2.2.2 G) else offE,offE,(bif tb e.2.2.2.2.1 G then [] else [12]),[],[]) else
  bif k==11 then (sideV e X Y op (rdV e.2.1 X) (rdV e.2.1 Y),sideV e X Y (notI op) (rdV e.2.1 X) (rdV e.2.1 Y),[],[],[]) else
  bif k==12 then (e,offE,[],[],[]) else
  bif k==13 then (offE,offE,[10],[],[]) else (offE,offE,[],[],[])
theorem Zc3 {L:List I} {i:Int} {x:I} (h:L[i.toNat]? = some x):rdV L i=x:=by unfold rdV;rw [h];rfl
variable {u:U} {t n:Int} {e:E} {l:List En} {c:C}
theorem Z2E (hu:unitOK u) (ht:0≤t) (hl:tabOK l) (hn:l.length≤1000) (he:e.1=true→envOK u t e) (h1:0≤n) (hc:u.2.2.2[t.toNat]? = some c) {a:A} (ga:c.2[n.toNat]? = some a) :
  Za7 u t n e l=some (oV u t n e l a):=by
 have h2:n<(c.2.length:Int):=by have:=(List.getElem?_eq_some_iff.1 ga).1;omega
 cases he1:e.1
 ·obtain ⟨on,V,G,A,must,may⟩:=e
  cases he1
  have e0:decide (0≤t)=true:=decide_eq_true ht
  have e1:decide (0≤n)=true:=decide_eq_true h1
  unfold Za7
  rw [e0,hc,e1,cond_true,Zb,cond_true,ga,Zb]
  rfl
 have hE:=he he1
 have ha:=(hu.ts c (List.mem_of_getElem? hc)).a a (List.mem_of_getElem? ga)
 rw [ZS2 u t n e l c a ht hc h1 ga he1]
 have hle:=hl.e
 obtain ⟨cc,hc',hv⟩:=hE.c
 obtain rfl:cc=c:=by rw [hc] at hc';exact (Option.some.inj hc').symm
 have vx:∀ {X:Int},0≤X∧X<cc.1→∃ x,e.2.1[X.toNat]? = some x:=fun {X} h=>ZE e.2.1 X (by omega)
 have gx:∀ {G:Int},0≤G∧G<(u.1.length:Int)→∃ x,e.2.2.1[G.toNat]? = some x:=fun {G} h=>ZE e.2.2.1 G (by rw [hE.g];exact h)
 have ax:∀ {G:Int},0≤G∧G<(u.2.1.length:Int)→∃ x m,e.2.2.2.1[G.toNat]? = some x∧u.2.1[G.toNat]? = some m:=fun {G} h=>by
  obtain ⟨x,gx⟩:=ZE e.2.2.2.1 G (by rw [hE.a];exact h)
  obtain ⟨m,gm⟩:=ZE u.2.1 G h
  exact ⟨x,m,gx,gm⟩
 obtain ⟨k,T,X,Y,G,N,op,nx,el⟩:=a
 have k1:1≤k:=ha.k1
 have k2:k≤14:=ha.k2
 have hk:k=1∨k=2∨k=3∨k=4∨k=5∨k=6∨k=7∨k=8∨k=9∨k=10∨k=11∨k=12∨k=13∨k=14:=by omega
 rcases hk with rfl | rfl | rfl | rfl | rfl | rfl | rfl | rfl | rfl | rfl | rfl | rfl | rfl | rfl
 ·rw [ZS7 u t n e l cc T X Y G N op nx el hu hle hn hE hc ha]
  simp only [oV,he1,Bool.not_true,cond_false];rfl
 ·obtain ⟨x,g1⟩:=vx (Zs.1 ha.h2)
  rw [ZS8 u t n e l cc T X Y G N op nx el g1 hu hle hn hE hc ha]
  simp only [oV,he1,Bool.not_true,cond_false,Zc3 g1];rfl
 ·rw [ZS9 u t n e l cc T X Y G N op nx el hu hle hn hE hc ha]
  simp only [oV,he1,Bool.not_true,cond_false];rfl
 ·obtain ⟨x,g1⟩:=vx (Zs.1 ha.h2)
  obtain ⟨y,g2⟩:=vx (Zs.1 ha.h3)
  rw [ZTa u t n e l cc T X Y G N op nx el g1 g2 hu hle hn hE hc ha]
  simp only [oV,he1,Bool.not_true,cond_false,Zc3 g1,Zc3 g2];rfl
 ·obtain ⟨x,g1⟩:=gx (Zs.1 ha.h4)
  rw [ZTb u t n e l cc T X Y G N op nx el g1 hu hle hn hE hc ha]
  simp only [oV,he1,Bool.not_true,cond_false,Zc3 g1];rfl
 ·obtain ⟨x,g1⟩:=vx (Zs.1 ha.h2)
  rw [ZTc u t n e l cc T X Y G N op nx el g1 hu hle hn hE hc ha]
  simp only [oV,he1,Bool.not_true,cond_false,Zc3 g1];rfl
 ·obtain ⟨x,g1⟩:=vx (Zs.1 ha.h2)
  obtain ⟨d,m,g2,gm⟩:=ax (Zs.1 ha.h4)
  rw [ZTd u t n e l cc T X Y G N op nx el g1 gm g2 hu hle hn hE hc ha]
  simp only [oV,he1,Bool.not_true,cond_false,Zc3 g1,Zc3 g2,gm,Option.getD_some];rfl
 ·obtain ⟨x,g1⟩:=vx (Zs.1 ha.h2)
  obtain ⟨y,g3⟩:=vx (Zs.1 ha.h3)
  obtain ⟨d,m,g2,gm⟩:=ax (Zs.1 ha.h4)
  have hY:0≤Y∧Y<cc.1:=Zs.1 ha.h3
  obtain ⟨y',gy'⟩:=ZE (e.2.1.set X.toNat (mSpan x (0,m - 1))) Y (by rw [List.length_set];omega)
  rw [ZTe u t n e l cc T X Y G N op nx el g1 g3 gm g2 gy' hu hle hn hE hc ha]
  simp only [oV,he1,Bool.not_true,cond_false,Zc3 g1,Zc3 g2,Zc3 g3,gm,Option.getD_some,Zc3 gy'];rfl
 ·rw [ZTf u t n e l cc T X Y G N op nx el hu hle hn hE hc ha]
  simp only [oV,he1,Bool.not_true,cond_false];rfl
 ·rw [ZPC u t n e l cc T X Y G N op nx el hu hle hn hE hc ha]
  simp only [oV,he1,Bool.not_true,cond_false];rfl
 ·obtain ⟨x,g1⟩:=vx (Zs.1 ha.h2)
  obtain ⟨y,g2⟩:=vx (Zs.1 ha.h3)
  obtain ⟨w,n1⟩:=ZOS op
  have hw:notI op=w:=by unfold notI;rw [n1];rfl
  rw [ZPD u t n e l cc T X Y G N op nx el g1 g2 n1 hu hle hn hE hc ha]
  simp only [oV,he1,Bool.not_true,cond_false,Zc3 g1,Zc3 g2,hw];rfl
 ·rw [ZPE u t n e l cc T X Y G N op nx el hu hle hn hE hc ha]
  simp only [oV,he1,Bool.not_true,cond_false];rfl
 ·rw [ZPF u t n e l cc T X Y G N op nx el hu hle hn hE hc ha]
  simp only [oV,he1,Bool.not_true,cond_false];rfl
 ·rw [ZPG u t n e l cc T X Y G N op nx el hu hle hn hE hc ha]
  simp only [oV,he1,Bool.not_true,cond_false];rfl
theorem Z1y (a:A):((oV u t n e l a).1.1=true→a.1≠13∧a.1≠14)∧((oV u t n e l a).2.1.1=true→a.1=11):=by
 obtain ⟨k,T,X,Y,G,N,op,nx,el⟩:=a
 unfold oV
 cases e.1
 ·exact ⟨(fun h=>nomatch h),fun h=>nomatch h⟩
 simp only [Bool.not_true,cond_false]
 refine ⟨fun h=>⟨?_,?_⟩,fun h=>?_⟩
 ·rintro rfl;exact nomatch h
 ·rintro rfl;exact nomatch h
 ·by_cases q:k=11
  ·exact q
  ·have hq:(k==11)=false:=by simpa using q
   rw [hq] at h
   revert h
   cases k==1
   case true=>exact fun h=>nomatch h
   cases k==2
   case true=>exact fun h=>nomatch h
   cases k==3
   case true=>exact fun h=>nomatch h
   cases k==4
   case true=>exact fun h=>nomatch h
   cases k==5
   case true=>exact fun h=>nomatch h
   cases k==6
   case true=>exact fun h=>nomatch h
   cases k==7
   case true=>exact fun h=>nomatch h
   cases k==8
   case true=>exact fun h=>nomatch h
   cases k==9
   case true=>exact fun h=>nomatch h
   cases k==10
   case true=>exact fun h=>nomatch h
   cases k==12
   case true=>exact fun h=>nomatch h
   cases k==13<;>exact fun h=>nomatch h
end
section
open Go.Proofs
section
variable {u:U} {t:Int} {l l':List En} {st:List Int} {c:C}
theorem Z1B (hu:unitOK u) (ht:0≤t) (hl:tabOK l) (hn:l.length≤1000) (hc:u.2.2.2[t.toNat]? = some c) {e:E} (he:e.1=true→envOK u t e) {i:Nat} {d:A} (hd:c.2[i]? = some d):outV u t i e l=oV u t i e l d:=by
 unfold outV
 rw [Z2E hu ht hl hn he (n:=(i:Int)) (by omega) hc (by rw [Int.toNat_natCast];exact hd)]
 rfl
end
end
section
open Go.Proofs
theorem ZZ8 {a b:I} (ha:empB a=false) (hb:empB b=false) (h:leqB b a=true):iJoin a b=a:=by
 rw [QK] at h
 have ka:=ZL ha
 have kb:=ZL hb
 unfold iJoin
 rw [ha,hb]
 unfold sub at h
 obtain ⟨a1,a2⟩:=a
 obtain ⟨b1,b2⟩:=b
 simp only [Bool.false_eq_true,if_false] at *
 rw [Prod.mk.injEq]
 simp only [mn,mx]
 constructor<;>(repeat' split)<;>omega
theorem ZQ4 {a b:List I} (h:leR b a) (ha:∀ x∈a,empB x=false) (hb:∀ x∈b,empB x=false):zipI iJoin a b=a:=by
 apply List.ext_getElem?
 intro i
 unfold zipI
 rw [List.getElem?_mapIdx]
 cases e:a[i]? with
 | none=>rfl
 | some x=>
  have hi:i<b.length:=by rw [h.1];exact (List.getElem?_eq_some_iff.1 e).1
  have eb:b[i]? = some b[i]:=List.getElem?_eq_getElem hi
  rw [Option.map_some,ZEL eb,ZZ8 (ha x (List.mem_of_getElem? e)) (hb _ (List.getElem_mem hi)) (h.2 i _ _ eb e)]
theorem ZWi {x y:Int} (hx:okB x) (hy:okB y) (h:subB x y):andI x y=x:=by
 rw [Zur hx hy]
 have:x.toNat &&& y.toNat=x.toNat:=Nat.eq_of_testBit_eq fun i=>by
  rw [Nat.testBit_and]
  cases q:x.toNat.testBit i
  ·rfl
  ·rw [h i q];rfl
 rw [this]
 unfold okB at hx
 omega
theorem Z2X {x y:Int} (hx:okB x) (hy:okB y) (h:subB y x):orI x y=x:=by
 rw [ZLo hx hy]
 have:x.toNat ||| y.toNat=x.toNat:=Nat.eq_of_testBit_eq fun i=>by
  rw [Nat.testBit_or]
  cases q:y.toNat.testBit i
  ·rw [Bool.or_false]
  ·rw [h i q];rfl
 rw [this]
 unfold okB at hx
 omega
def comeF (to:Int) (e:E) (es:List E):List E:=bif e.1 then es.set to.toNat (eJoin iJoin ((es[to.toNat]?).getD offE) e) else es
section
variable {u:U} {t:Int} {l l':List En} {st:List Int} {c:C} {a b z:E}
theorem Z1q (ha:a.1=true) (oa:envOK u t a) (ob:envOK u t b) (h:leE b a):mrg iJoin a b=a:=by
 obtain ⟨on,V,G,A,m,y⟩:=a
 cases ha
 unfold mrg
 have e1:=ZQ4 h.v (fun x k=>(envV oa x k).2) fun x k=>(envV ob x k).2
 have e2:=ZQ4 h.g (fun x k=>(envG oa x k).2) fun x k=>(envG ob x k).2
 have e3:=ZQ4 h.a (fun x k=>(envA oa x k).2) fun x k=>(envA ob x k).2
 have e4:=ZWi oa.must ob.must h.must
 have e5:=Z2X oa.may ob.may h.may
 simp only at e1 e2 e3 e4 e5 ⊢
 rw [e1,e2,e3,e4,e5]
theorem ZRW (a:E):sameE a a=true:=by
 unfold sameE
 cases a.1<;>simp
theorem ZTu {fr to:Int} {e y:E} {es:List E} {ns:List Int} (oy:okE u t y) (oe:e.1=true→envOK u t e) (hf:e.1=true→fr<to) (g1:es[to.toNat]? = some y) (hl:ns.length=es.length) (h:leO e y):comeV st fr to e es ns=(false,es,ns):=by
 have h1:=(List.getElem?_eq_some_iff.1 g1).1
 have g2:ns[to.toNat]? = some (ns[to.toNat]'(by omega)):=List.getElem?_eq_getElem _
 generalize ns[to.toNat]'(by omega)=n at g2
 unfold comeV
 cases he1:e.1
 ·simp only [g1,g2]
 ·have k:=h he1
  have hn:nxtV st fr to y e n=y:=by
   unfold nxtV
   rw [if_neg (fun q=>by have:=hf he1;omega)]
   unfold eJoin
   rw [he1,k.on]
   exact Z1q k.on (oy.env k.on) (oe he1) k
  simp only [g1,g2,hn,ZRW,cond_true]
theorem ZWn {fr to:Int} {e:E} {es:List E} {ns:List Int} (hes:∀ x∈es,okE u t x) (oe:e.1=true→envOK u t e) (hf:e.1=true→fr<to) (h1:to.toNat<es.length) (hl:ns.length=es.length) :
  (comeV st fr to e es ns).2=(comeF to e es,ns):=by
 have g1:es[to.toNat]? = some es[to.toNat]:=List.getElem?_eq_getElem h1
 have g2:ns[to.toNat]? = some (ns[to.toNat]'(by omega)):=List.getElem?_eq_getElem _
 have ho:=hes _ (List.getElem_mem h1)
 generalize es[to.toNat]=old at g1 ho
 generalize ns[to.toNat]'(by omega)=n at g2
 unfold comeV comeF
 cases he1:e.1
 ·simp only [g1,g2];rfl
 ·have hx:=hf he1
  have hn:nxtV st fr to old e n=eJoin iJoin old e:=by
   unfold nxtV
   rw [if_neg (fun q=>by omega)]
  have on:(eJoin iJoin old e).1=true:=Zl4 he1
  simp only [g1,g2,hn,Option.getD_some,cond_true]
  cases q:sameE (eJoin iJoin old e) old
  ·simp only [cond_false,if_neg (show ¬ to≤fr by omega)]
  ·simp only [cond_true]
   rw [ZXb on q]
   have:es.set to.toNat old=es:=List.ext_getElem? fun i=>by
    by_cases w:to.toNat=i
    ·subst w;rw [List.getElem?_set_self h1,g1]
    ·rw [List.getElem?_set_ne w]
   rw [this]
theorem ZnI {to:Int} {e:E} {es:List E} (hes:∀ x∈es,okE u t x) (oe:e.1=true→envOK u t e) (h1:to.toNat<es.length) :
  (∀ x∈comeF to e es,okE u t x)∧(comeF to e es).length=es.length∧upL es (comeF to e es)∧(∀ i,i≠to.toNat→(comeF to e es)[i]? = es[i]?)∧((e.1=false→comeF to e es=es)∧∃ x,(comeF to e es)[to.toNat]? = some x∧leO e x):=by
 have g1:es[to.toNat]? = some es[to.toNat]:=List.getElem?_eq_getElem h1
 have ho:=hes _ (List.getElem_mem h1)
 unfold comeF
 cases he1:e.1
 ·rw [cond_false]
  exact ⟨hes,rfl,ZG9 _,fun i _=>rfl,fun _=>rfl,_,g1,fun k=>by rw [he1] at k;cases k⟩
 ·simp only [cond_true,g1,Option.getD_some]
  generalize es[to.toNat]=old at g1 ho
  have on:(eJoin iJoin old e).1=true:=Zl4 he1
  refine ⟨fun x hx=>?_,by simp,fun i x hx=>?_,fun i hi=>List.getElem?_set_ne (Ne.symm hi),(fun k=>nomatch k),_,List.getElem?_set_self h1,fun _=>ZKk ZAs ho.env he1 (oe he1)⟩
  ·rcases List.mem_or_eq_of_mem_set hx with k | rfl
   ·exact hes x k
   ·exact .inr ⟨on,ZnK ZzO ho.env oe on⟩
  ·by_cases q:to.toNat=i
   ·subst q
    rw [g1] at hx;cases hx
    exact ⟨_,List.getElem?_set_self h1,fun k=>ZKj ZAs k (ho.env k) oe⟩
   ·exact ⟨x,by rw [List.getElem?_set_ne q];exact hx,ZzI x⟩
end
end
section
open Go.Proofs
def fwd (c:C):Prop:=∀ (i:Nat) (d:A),c.2[i]? = some d→d.1≠13→d.1≠14→(i:Int)<d.2.2.2.2.2.2.2.1∧(d.1=11→(i:Int)<d.2.2.2.2.2.2.2.2)
def nodeF (u:U) (t:Int) (l:List En) (i:Nat) (es:List E) (d:A):List E:=
 comeF d.2.2.2.2.2.2.2.2 (outV u t i ((es[i]?).getD offE) l).2.1 (comeF d.2.2.2.2.2.2.2.1 (outV u t i ((es[i]?).getD offE) l).1 es)
def Zdv (u:U) (t:Int) (l:List En) (i:Nat) (r:List A) (es:List E):List E:=Qp (fun i es d=>nodeF u t l i es d) i r es
section
variable {u:U} {t:Int} {l l':List En} {st:List Int} {c:C}
theorem Z2Y (hu:unitOK u) (ht:0≤t) (hl:tabOK l) (hn:l.length≤1000) (hc:u.2.2.2[t.toNat]? = some c) (hf:fwd c) {e:E} (he:e.1=true→envOK u t e) {i:Nat} {d:A} (hd:c.2[i]? = some d) :
  ((outV u t i e l).1.1=true→(i:Int)<d.2.2.2.2.2.2.2.1)∧((outV u t i e l).2.1.1=true→(i:Int)<d.2.2.2.2.2.2.2.2):=by
 rw [Z1B hu ht hl hn hc he hd]
 obtain ⟨k1,k2⟩:=Z1y (u:=u) (t:=t) (n:=(i:Int)) (e:=e) (l:=l) d
 refine ⟨fun h=>(hf i d hd (k1 h).1 (k1 h).2).1,fun h=>?_⟩
 have:=k2 h
 exact (hf i d hd (by omega) (by omega)).2 this
theorem ZWZ (hu:unitOK u) (ht:0≤t) (hl:tabOK l) (hn:l.length≤1000) (hc:u.2.2.2[t.toNat]? = some c) (hf:fwd c) {b:Bool} {es:List E} {ns:List Int} (v:Inv u t c.2.length es ns) {i:Nat} {d:A} (hd:c.2[i]? = some d) :
  (nodeV u t l st i (b,es,ns) d).2=(nodeF u t l i es d,ns)∧(∀ x∈nodeF u t l i es d,okE u t x)∧(nodeF u t l i es d).length=es.length∧upL es (nodeF u t l i es d)∧(∀ j,j≤i→(nodeF u t l i es d)[j]? = es[j]?)∧ZaM u t l (nodeF u t l i es d) i d ∧
  (ZaM u t l es i d→nodeV u t l st i (b,es,ns) d=(b,es,ns)):=by
 have hi:=(List.getElem?_eq_some_iff.1 hd).1
 have ha:=(hu.ts c (List.mem_of_getElem? hc)).a d (List.mem_of_getElem? hd)
 have hx:=ha.nx
 have hy:=ha.el
 have ve:=v.le
 have vn:=v.ln
 have hie:i<es.length:=by omega
 have ge:es[i]? = some es[i]:=List.getElem?_eq_getElem hie
 have oe:=v.ok _ (List.getElem_mem hie)
 obtain ⟨_,_,o3,_⟩:=Zog hu ht hl hn hc oe hi
 obtain ⟨f1,f2⟩:=Z2Y hu ht hl hn hc hf oe.env hd
 have cl:∀ es',es'[i]? = es[i]?→(ZaM u t l es' i d↔∃ x y,es'[d.2.2.2.2.2.2.2.1.toNat]? = some x∧es'[d.2.2.2.2.2.2.2.2.toNat]? = some y∧leO (outV u t i es[i] l).1 x∧leO (outV u t i es[i] l).2.1 y):=fun es' h=>by
  unfold ZaM
  rw [h]
  simp only [ge,Option.getD_some]
 have c0:=cl es rfl
 have hN:nodeV u t l st i (b,es,ns) d=(b||(comeV st i d.2.2.2.2.2.2.2.1 (outV u t i es[i] l).1 es ns).1||(comeV st i d.2.2.2.2.2.2.2.2 (outV u t i es[i] l).2.1 (comeV st i d.2.2.2.2.2.2.2.1 (outV u t i es[i] l).1 es ns).2.1 (comeV st i d.2.2.2.2.2.2.2.1 (outV u t i es[i] l).1 es ns).2.2).1,
   (comeV st i d.2.2.2.2.2.2.2.2 (outV u t i es[i] l).2.1 (comeV st i d.2.2.2.2.2.2.2.1 (outV u t i es[i] l).1 es ns).2.1 (comeV st i d.2.2.2.2.2.2.2.1 (outV u t i es[i] l).1 es ns).2.2).2):=by
  unfold nodeV
  simp only [ge,Option.getD_some]
 have hF:nodeF u t l i es d=comeF d.2.2.2.2.2.2.2.2 (outV u t i es[i] l).2.1 (comeF d.2.2.2.2.2.2.2.1 (outV u t i es[i] l).1 es):=by
  unfold nodeF
  simp only [ge,Option.getD_some]
 rw [hN,hF]
 generalize outV u t i es[i] l=o at *
 clear hN hF
 obtain ⟨p1,p2,p3,p4,p5,x0,p6,p7⟩:=ZnI (to:=d.2.2.2.2.2.2.2.1) v.ok o3.nx (by omega)
 obtain ⟨q1,q2,q3,q4,q5,y0,q6,q7⟩:=ZnI (to:=d.2.2.2.2.2.2.2.2) p1 o3.el (by omega)
 have w1:=ZWn (st:=st) (fr:=(i:Int)) (to:=d.2.2.2.2.2.2.2.1) (ns:=ns) v.ok o3.nx f1 (by omega) (by omega)
 have w2:=ZWn (st:=st) (fr:=(i:Int)) (to:=d.2.2.2.2.2.2.2.2) (ns:=ns) p1 o3.el f2 (by omega) (by omega)
 have keep:∀ j,j≤i→(comeF d.2.2.2.2.2.2.2.2 o.2.1 (comeF d.2.2.2.2.2.2.2.1 o.1 es))[j]? = es[j]?:=fun j hj=>by
  have a1:(comeF d.2.2.2.2.2.2.2.1 o.1 es)[j]? = es[j]?:=by
   cases q:o.1.1
   ·rw [p5 q]
   ·have:=f1 q
    exact p4 j (by omega)
  rw [← a1]
  cases q:o.2.1.1
  ·rw [q5 q]
  ·have:=f2 q
   exact q4 j (by omega)
 refine ⟨?_,q1,q2.trans p2,ZBR p3 q3,keep,?_,fun h=>?_⟩
 ·rw [w1];exact w2
 ·rw [cl _ (keep i (Nat.le_refl _))]
  obtain ⟨x1,g1,l1⟩:=q3 _ _ p6
  exact ⟨x1,y0,g1,q6,Zrl p7 l1,q7⟩
 ·obtain ⟨x,y,gx,gy,lx,ly⟩:=c0.1 h
  have a1:=ZTu (st:=st) (fr:=(i:Int)) (v.ok x (List.mem_of_getElem? gx)) o3.nx f1 gx (by omega:ns.length=es.length) lx
  have a2:=ZTu (st:=st) (fr:=(i:Int)) (v.ok y (List.mem_of_getElem? gy)) o3.el f2 gy (by omega:ns.length=es.length) ly
  rw [a1,a2]
  cases b<;>rfl
theorem ZU0 (hu:unitOK u) (ht:0≤t) (hl:tabOK l) (hn:l.length≤1000) (hc:u.2.2.2[t.toNat]? = some c) (hf:fwd c):∀ (r:List A) (i:Nat) (b:Bool) (es:List E) (ns:List Int),c.2.drop i=r→Inv u t c.2.length es ns→(∀ (j:Nat) (d:A),j<i→c.2[j]? = some d→ZaM u t l es j d)→
  (Qp (fun i s d=>nodeV u t l st i s d) i r (b,es,ns)).2=(Zdv u t l i r es,ns)∧Inv u t c.2.length (Zdv u t l i r es) ns∧∀ (j:Nat) (d:A),c.2[j]? = some d→ZaM u t l (Zdv u t l i r es) j d
 | [],i,b,es,ns,hd,v,hC=>by
  refine ⟨rfl,v,fun j d hj=>hC j d ?_ hj⟩
  have:=(List.getElem?_eq_some_iff.1 hj).1
  have:c.2.length≤i:=by
   have:=congrArg List.length hd
   rw [List.length_drop] at this
   simp at this
   omega
  omega
 | d::r,i,b,es,ns,hd,v,hC=>by
  have e:c.2[i]? = some d:=by
   have:=congrArg (fun q=>q[0]?) hd
   simpa using this
  obtain ⟨n1,n2,n3,n4,n5,n6,_⟩:=ZWZ (st:=st) (b:=b) hu ht hl hn hc hf v e
  have ih:=ZU0 hu ht hl hn hc hf r (i+1) (nodeV u t l st i (b,es,ns) d).1 (nodeF u t l i es d) ns (by rw [← List.drop_drop,hd];rfl) ⟨n2,n3.trans v.le,v.ln⟩ (fun j d' hj hd'=>?_)
  ·rw [Qp]
   have:nodeV u t l st i (b,es,ns) d=((nodeV u t l st i (b,es,ns) d).1,nodeF u t l i es d,ns):=Prod.ext rfl n1
   rw [this]
   exact ih
  ·by_cases q:j=i
   ·subst q
    rw [e] at hd';cases hd'
    exact n6
   ·obtain ⟨x,y,gx,gy,lx,ly⟩:=hC j d' (by omega) hd'
    obtain ⟨x1,gx1,lx1⟩:=n4 _ _ gx
    obtain ⟨y1,gy1,ly1⟩:=n4 _ _ gy
    unfold ZaM
    rw [n5 j (by omega)]
    exact ⟨x1,y1,gx1,gy1,Zrl lx lx1,Zrl ly ly1⟩
theorem ZMN (hu:unitOK u) (ht:0≤t) (hl:tabOK l) (hn:l.length≤1000) (hc:u.2.2.2[t.toNat]? = some c) (hf:fwd c) {es:List E} {ns:List Int} (v:Inv u t c.2.length es ns) (hC:∀ (j:Nat) (d:A),c.2[j]? = some d→ZaM u t l es j d):∀ (r:List A) (i:Nat) (b:Bool),c.2.drop i=r→
  Qp (fun i s d=>nodeV u t l st i s d) i r (b,es,ns)=(b,es,ns)
 | [],i,b,hd=>rfl
 | d::r,i,b,hd=>by
  have e:c.2[i]? = some d:=by
   have:=congrArg (fun q=>q[0]?) hd
   simpa using this
  rw [Qp,(ZWZ (st:=st) (b:=b) hu ht hl hn hc hf v e).2.2.2.2.2.2 (hC i d e)]
  exact ZMN hu ht hl hn hc hf v hC r (i+1) b (by rw [← List.drop_drop,hd];rfl)
theorem ZYu (hu:unitOK u) (ht:0≤t) (hl:tabOK l) (hn:l.length≤1000) (hc:u.2.2.2[t.toNat]? = some c) (hf:fwd c):(endV u t l st c).1=Zdv u t l 0 c.2 (es0 u c)∧(endV u t l st c).2.2.2=true∧Inv u t c.2.length (Zdv u t l 0 c.2 (es0 u c)) (ns0 c):=by
 obtain ⟨r1,r2,r3⟩:=ZU0 (st:=st) hu ht hl hn hc hf c.2 0 false (es0 u c) (ns0 c) rfl (ZXI hu hc) (fun j d h=>absurd h (by omega))
 have r1:(ZX u t l st c (es0 u c) (ns0 c)).2=(Zdv u t l 0 c.2 (es0 u c),ns0 c):=r1
 have s:=fun b=>ZMN (st:=st) hu ht hl hn hc hf r2 r3 c.2 0 b rfl
 have s:ZX u t l st c (Zdv u t l 0 c.2 (es0 u c)) (ns0 c)=(false,Zdv u t l 0 c.2 (es0 u c),ns0 c):=s false
 have e:endV u t l st c=runV u t l st c 99 (ZX u t l st c (es0 u c) (ns0 c)).2.1 (ZX u t l st c (es0 u c) (ns0 c)).2.2 1 (!(ZX u t l st c (es0 u c) (ns0 c)).1):=rfl
 rw [r1] at e
 cases q:(ZX u t l st c (es0 u c) (ns0 c)).1
 ·rw [q] at e
  have e:endV u t l st c=(Zdv u t l 0 c.2 (es0 u c),ns0 c,1,true):=e
  rw [e]
  exact ⟨rfl,rfl,r2⟩
 ·rw [q] at e
  have e:endV u t l st c=runV u t l st c 98 (ZX u t l st c (Zdv u t l 0 c.2 (es0 u c)) (ns0 c)).2.1 (ZX u t l st c (Zdv u t l 0 c.2 (es0 u c)) (ns0 c)).2.2 2 (!(ZX u t l st c (Zdv u t l 0 c.2 (es0 u c)) (ns0 c)).1):=e
  rw [s] at e
  have e:endV u t l st c=(Zdv u t l 0 c.2 (es0 u c),ns0 c,2,true):=e
  rw [e]
  exact ⟨rfl,rfl,r2⟩
end
end
section
open Go.Proofs Go.Proofs.YtbdcblpjemmipaaGreat
def Z5U:List Sh:=[.dat (.int .i64),.dat (.int .i64),.dat (.int .i64)]
def Z5Z:List Con:=[⟨31,ZlP,Zqp⟩]
def Z5Q (a0 a1 a2:Int):Option (Int×(Int×Unit)):=
 optC (Zn (a1,())) none fun d4=>
 bif !d4 then some (0,1,PUnit.unit)
 else
 optC (Zn (a2,())) none fun d5=>
 bif !d5 then some (0,1,PUnit.unit)
 else
 bif decide (a0<1) then some (0,1,PUnit.unit)
 else
 bif decide (a0>5) then some (0,1,PUnit.unit)
 else
 bif decide (a0≥4) then
 bif a2==0 then some (0,8,PUnit.unit)
 else
 bif a0==1 then
 optC (Zn (IntKind.i64.wrap (a1+a2),())) none fun d6=>
 bif !d6 then some (0,7,PUnit.unit) else some (IntKind.i64.wrap (a1+a2),0,PUnit.unit)
 else
 bif a0==2 then
 optC (Zn (IntKind.i64.wrap (a1 - a2),())) none fun d6=>
 bif !d6 then some (0,7,PUnit.unit) else some (IntKind.i64.wrap (a1 - a2),0,PUnit.unit)
 else
 bif a0==3 then
 optC (Zn (IntKind.i64.wrap (a1*a2),())) none fun d6=>
 bif !d6 then some (0,7,PUnit.unit) else some (IntKind.i64.wrap (a1*a2),0,PUnit.unit)
 else
 bif a0==4 then
 bif decide (a2=0) then none
 else
 optC (Zn (IntKind.i64.wrap (a1.tdiv a2),())) none fun d6=>
 bif !d6 then some (0,7,PUnit.unit) else some (IntKind.i64.wrap (a1.tdiv a2),0,PUnit.unit)
 else
 bif decide (a2=0) then none
 else optC (Zn (a1.tmod a2,())) none fun d6=>bif !d6 then some (0,7,PUnit.unit) else some (a1.tmod a2,0,PUnit.unit)
 else
 bif a0==1 then
 optC (Zn (IntKind.i64.wrap (a1+a2),())) none fun d6=>
 bif !d6 then some (0,7,PUnit.unit) else some (IntKind.i64.wrap (a1+a2),0,PUnit.unit)
 else
 bif a0==2 then
 optC (Zn (IntKind.i64.wrap (a1 - a2),())) none fun d6=>
 bif !d6 then some (0,7,PUnit.unit) else some (IntKind.i64.wrap (a1 - a2),0,PUnit.unit)
 else
 bif a0==3 then
 optC (Zn (IntKind.i64.wrap (a1*a2),())) none fun d6=>
 bif !d6 then some (0,7,PUnit.unit) else some (IntKind.i64.wrap (a1*a2),0,PUnit.unit)
 else
 bif a0==4 then
 bif decide (a2=0) then none
 else
 optC (Zn (IntKind.i64.wrap (a1.tdiv a2),())) none fun d6=>
 bif !d6 then some (0,7,PUnit.unit) else some (IntKind.i64.wrap (a1.tdiv a2),0,PUnit.unit)
 else
 bif decide (a2=0) then none
 else optC (Zn (a1.tmod a2,())) none fun d6=>bif !d6 then some (0,7,PUnit.unit) else some (a1.tmod a2,0,PUnit.unit)
theorem Z54 (a0 a1 a2:Int):evGX (cxU Z5Z [] 40 1048576) keeps 8 33 Z5U (.tup [.dat (.int .i64),.dat (.int .i64)]) ((a0,a1,a2,()):(Int×(Int×(Int×Unit))))=Z5Q a0 a1 a2:=by kernel_rfl
def Z5N (x:(Int×(Int×(Int×Unit)))):Option (Int×(Int×Unit)):=Z5Q x.1 x.2.1 x.2.2.1
def Z5V:List AV→Prog AV:=conP true Z5U (.tup [.dat (.int .i64),.dat (.int .i64)]) Z5N
theorem Z55:Zd Tryz.prog 33 Z5V:=Zc (calU Z5Z [] 40 1048576 8 33) true (by rfl) (by rfl) (fun x r e=>(Zg _ _ _ _ _ _ _).trans ((Z54 x.1 x.2.1 x.2.2.1).trans e)) (.inl rfl)
end
section
open Go.Proofs
def actQ (u:U) (c:C) (a:A):Bool:=
 decide (1≤a.1)&&(decide (a.1≤14)&&((a.1==1||a.2.2.2.2.2.1==0)&&(inB a.2.2.2.2.2.2.2.1 (c.2.length:Int)&&(inB a.2.2.2.2.2.2.2.2 (c.2.length:Int)&&((a.1==11||a.2.2.2.2.2.2.2.2==0)&&((a.1 !=4||(decide (1≤a.2.2.2.2.2.2.1)&&decide (a.2.2.2.2.2.2.1≤5)))&&((a.1 !=11||(decide (1≤a.2.2.2.2.2.2.1)&&decide (a.2.2.2.2.2.2.1≤6))) &&
  ((a.1==4||(a.1==11||a.2.2.2.2.2.2.1==0))&&(hasV a.1 1 a.2.1 c.1&&(hasV a.1 2 a.2.2.1 c.1&&(hasV a.1 3 a.2.2.2.1 c.1&&hasV a.1 4 a.2.2.2.2.1 (gBd u a.1))))))))))))
theorem Z6d {u:U} {c:C} {a:A} (h:actQ u c a=true) (hf:fitB a.2.2.2.2.2.1=true):actOK u c a:=by
 unfold actQ at h
 simp only [Bool.and_eq_true,Bool.or_eq_true,decide_eq_true_eq,beq_iff_eq,bne_iff_ne,ne_eq,inB] at h
 obtain ⟨h1,h2,h3,h4,h5,h6,h7,h8,h9,h10,h11,h12,h13⟩:=h
 exact ⟨h1,h2,hf,fun k=>h3.resolve_left k,h4,h5,fun k=>h6.resolve_left k,fun k=>h7.resolve_left (fun q=>q k),fun k=>h8.resolve_left (fun q=>q k),fun k k'=>(h9.resolve_left k).resolve_left k',h10,h11,h12,h13⟩
def codeQ (u:U) (c:C):Bool:=decide (0≤c.1)&&(decide (c.1≤40)&&(decide (1≤c.2.length)&&(decide (c.2.length≤60)&&((c.2[c.2.length - 1]?).elim false (fun a=>a.1==14)&&c.2.all (actQ u c)))))
def unitQ (u:U):Bool:=decide (u.1.length≤6)&&(decide (u.2.1.length≤3)&&(decide (0≤u.2.2.1)&&(decide (u.2.2.1≤6)&&(decide (1≤u.2.2.2.length)&&(decide (u.2.2.2.length≤4)&&(u.2.1.all (fun n=>decide (1≤n)&&decide (n≤16))&&u.2.2.2.all (codeQ u)))))))
theorem Z6c {u:U} (h:unitQ u=true) (hg:∀ n∈u.1,fitB n=true) (hf:∀ c∈u.2.2.2,∀ a∈c.2,fitB a.2.2.2.2.2.1=true):unitOK u:=by
 unfold unitQ at h
 simp only [Bool.and_eq_true,decide_eq_true_eq,List.all_eq_true] at h
 obtain ⟨h1,h2,h3,h4,h5,h6,h7,h8⟩:=h
 refine ⟨h1,h2,⟨h3,h4⟩,⟨h5,h6⟩,hg,h7,fun c hc=>?_⟩
 have k:=h8 c hc
 unfold codeQ at k
 simp only [Bool.and_eq_true,decide_eq_true_eq,List.all_eq_true] at k
 obtain ⟨k1,k2,k3,k4,k5,k6⟩:=k
 refine ⟨⟨k1,k2⟩,⟨k3,k4⟩,?_,fun a ha=>Z6d (k6 a ha) (hf c hc a ha)⟩
 cases q:c.2[c.2.length - 1]? with
 | none=>rw [q] at k5;cases k5
 | some a=>rw [q] at k5;exact ⟨a,rfl,by simpa using k5⟩
def fwdB (c:C):Bool:=allIx (fun i d=>d.1==13||(d.1==14||(decide ((i:Int)<d.2.2.2.2.2.2.2.1)&&(d.1 !=11||decide ((i:Int)<d.2.2.2.2.2.2.2.2))))) 0 c.2
theorem Z6e {c:C} (h:fwdB c=true):fwd c:=fun i d hd h13 h14=>by
 have k:=(ZvJ.1 h) i d hd
 rw [Nat.zero_add] at k
 simp only [Bool.or_eq_true,Bool.and_eq_true,decide_eq_true_eq,beq_iff_eq,bne_iff_ne,ne_eq] at k
 have k:=(k.resolve_left h13).resolve_left h14
 exact ⟨k.1,fun q=>k.2.resolve_left fun w=>w q⟩
def stepF (u:U) (t:Int) (l:List En) (i:Nat) (es:List E) (d:A):List E:=comeF d.2.2.2.2.2.2.2.2 (oV u t (i:Int) ((es[i]?).getD offE) l d).2.1 (comeF d.2.2.2.2.2.2.2.1 (oV u t (i:Int) ((es[i]?).getD offE) l d).1 es)
def gatS (u:U) (t:Int) (l:List En) (es:List E) (i:Nat) (s:Ga) (d:A):Ga:=gatN t i s (oV u t (i:Int) ((es[i]?).getD offE) l d)
section
variable {u:U} {t:Int} {l:List En} {c:C}
theorem Z6a (hu:unitOK u) (ht:0≤t) (hl:tabOK l) (hn:l.length≤1000) (hc:u.2.2.2[t.toNat]? = some c) (hf:fwd c) {es:List E} {ns:List Int} (v:Inv u t c.2.length es ns) {i:Nat} {d:A} (hd:c.2[i]? = some d) :
  nodeF u t l i es d=comeF d.2.2.2.2.2.2.2.2 (oV u t i ((es[i]?).getD offE) l d).2.1 (comeF d.2.2.2.2.2.2.2.1 (oV u t i ((es[i]?).getD offE) l d).1 es)∧Inv u t c.2.length (nodeF u t l i es d) ns:=by
 obtain ⟨_,n2,n3,_⟩:=ZWZ (st:=[]) (b:=false) hu ht hl hn hc hf v hd
 have hi:=(List.getElem?_eq_some_iff.1 hd).1
 have hie:i<es.length:=by rw [v.le];exact hi
 have ge:es[i]? = some es[i]:=List.getElem?_eq_getElem hie
 refine ⟨?_,n2,n3.trans v.le,v.ln⟩
 unfold nodeF
 rw [ge,Option.getD_some,Z1B hu ht hl hn hc (v.ok _ (List.getElem_mem hie)).env hd]
theorem Z51 (hu:unitOK u) (ht:0≤t) (hl:tabOK l) (hn:l.length≤1000) (hc:u.2.2.2[t.toNat]? = some c) (hf:fwd c):∀ (r:List A) (i:Nat) (es:List E) (ns:List Int),c.2.drop i=r→Inv u t c.2.length es ns→
  Zdv u t l i r es=Qp (stepF u t l) i r es
 | [],i,es,ns,hd,v=>rfl
 | d::r,i,es,ns,hd,v=>by
  have e:c.2[i]? = some d:=by
   have:=congrArg (fun q=>q[0]?) hd
   simpa using this
  obtain ⟨h1,h2⟩:=Z6a hu ht hl hn hc hf v e
  rw [Qp,show stepF u t l i es d=nodeF u t l i es d from h1.symm]
  exact Z51 hu ht hl hn hc hf r (i+1) _ ns (by rw [← List.drop_drop,hd];rfl) h2
theorem Z56 (hu:unitOK u) (ht:0≤t) (hl:tabOK l) (hn:l.length≤1000) (hc:u.2.2.2[t.toNat]? = some c) {es:List E} {ns:List Int} (v:Inv u t c.2.length es ns):∀ (r:List A) (i:Nat) (s:Ga),c.2.drop i=r→
  gatV u t l es i r s=Qp (gatS u t l es) i r s
 | [],i,s,hd=>rfl
 | d::r,i,s,hd=>by
  have e:c.2[i]? = some d:=by
   have:=congrArg (fun q=>q[0]?) hd
   simpa using this
  have hi:=(List.getElem?_eq_some_iff.1 e).1
  have hie:i<es.length:=by rw [v.le];exact hi
  have ge:es[i]? = some es[i]:=List.getElem?_eq_getElem hie
  have hV:gatV u t l es i (d::r) s=gatV u t l es (i+1) r (gatN t i s (outV u t i ((es[i]?).getD offE) l)):=rfl
  rw [hV,Qp]
  unfold gatS
  rw [ge,Option.getD_some,Z1B hu ht hl hn hc (v.ok _ (List.getElem_mem hie)).env e]
  exact Z56 hu ht hl hn hc v r (i+1) _ (by rw [← List.drop_drop,hd];rfl)
theorem Z6b (hu:unitOK u) (ht:0≤t) (hl:tabOK l) (hn:l.length≤1000) (hc:u.2.2.2[t.toNat]? = some c) (hf:fwd c) {es:List E} {ga:Ga} (he:Qp (stepF u t l) 0 c.2 (es0 u c)=es)
  (hg:Qp (gatS u t l es) 0 c.2 ([],[],[])=ga):∃ r,Zrb u t l=some (es,ga.1,ga.2.1,ga.2.2,r,true)∧resV u t l (ZJ u) c=(es,ga.1,ga.2.1,ga.2.2,r,true):=by
 obtain ⟨r1,_,v,g⟩:=ZuY hu ht hl hn hc
 obtain ⟨f1,f2,f3⟩:=ZYu (st:=ZJ u) hu ht hl hn hc hf
 have e1:(endV u t l (ZJ u) c).1=es:=by rw [f1,Z51 hu ht hl hn hc hf c.2 0 (es0 u c) (ns0 c) rfl (ZXI hu hc),he]
 have e2:gatE u t l (ZJ u) c=ga:=by
  unfold gatE
  rw [Z56 hu ht hl hn hc v c.2 0 ([],[],[]) rfl,e1,hg]
 have e3:resV u t l (ZJ u) c=(es,ga.1,ga.2.1,ga.2.2,(endV u t l (ZJ u) c).2.2.1,true):=by
  unfold resV
  rw [e1,e2,f2]
 exact ⟨_,by rw [r1,e3],e3⟩
end
theorem Z6j {a b:Int} (ha : -2147483648≤a∧a≤2147483647) (hb : -2147483648≤b∧b≤2147483647) : -4611686018427387904≤a*b∧a*b≤4611686018427387904:=by
 have h1:a.natAbs*b.natAbs≤2147483648*2147483648:=Nat.mul_le_mul (by omega) (by omega)
 have h2:(a*b).natAbs=a.natAbs*b.natAbs:=Int.natAbs_mul a b
 omega
theorem Z6g {a b:Int} (ha : -2147483648≤a∧a≤2147483647) : -2147483648≤a.tdiv b∧a.tdiv b≤2147483648:=by
 have h:(a.tdiv b).natAbs=a.natAbs / b.natAbs:=Int.natAbs_tdiv a b
 have:=Nat.div_le_self a.natAbs b.natAbs
 omega
theorem Z58 (op:Int) {a b:Int} (h1:1≤op) (h2:op≤4) (fa:fitB a=true) (fb:fitB b=true):Z5Q op a b=some ((doR op a b).1,(doR op a b).2,()):=by
 have ka:=W9.1 fa
 have kb:=W9.1 fb
 have hk:op=1∨op=2∨op=3∨op=4:=by omega
 have w1:IntKind.i64.wrap (a+b)=a+b:=ZrC (by omega) (by omega)
 have w2:IntKind.i64.wrap (a - b)=a - b:=ZrC (by omega) (by omega)
 have m:=Z6j ka kb
 have w3:IntKind.i64.wrap (a*b)=a*b:=ZrC (by omega) (by omega)
 have d:=Z6g (b:=b) ka
 have w4:IntKind.i64.wrap (a.tdiv b)=a.tdiv b:=ZrC (by omega) (by omega)
 unfold Z5Q
 simp only [Zn,Qq,fa,fb,Zb,Bool.not_true,cond_false,w1,w2,w3,w4]
 rcases hk with rfl | rfl | rfl | rfl
 ·have e1:doR 1 a b=if fitB (a+b) then (a+b,0) else (0,7):=by simp [doR,fa,fb]
  rw [e1]
  cases fitB (a+b)<;>rfl
 ·have e1:doR 2 a b=if fitB (a - b) then (a - b,0) else (0,7):=by simp [doR,fa,fb]
  rw [e1]
  cases fitB (a - b)<;>rfl
 ·have e1:doR 3 a b=if fitB (a*b) then (a*b,0) else (0,7):=by simp [doR,fa,fb]
  rw [e1]
  cases fitB (a*b)<;>rfl
 ·by_cases h0:b=0
  ·subst h0
   have e1:doR 4 a 0=(0,8):=by simp [doR,fa,fb]
   rw [e1];rfl
  ·have e1:doR 4 a b=if fitB (a.tdiv b) then (a.tdiv b,0) else (0,7):=by simp [doR,fa,fb,h0]
   have q:(b==0)=false:=by simpa using h0
   rw [e1,q,decide_eq_false h0]
   cases fitB (a.tdiv b)<;>rfl
end
section
open Go.Proofs Go.Proofs.YtbdcblpjemmipaaGreat
def Z5O:List Sh:=[.dat (.int .i64),.dat (.int .i64),.dat (.int .i64)]
def Z5P:List Con:=[⟨31,ZlP,Zqp⟩,⟨24,Zhu,Zl7⟩,⟨33,Z5V,Z55⟩,⟨26,Zd1,Zhm⟩,⟨20,Zzr,ZKR⟩]
def Z5K (a0 a1 a2:Int):Option Bool:=
 optC (Zn (a0,())) none fun d4=>
 bif !d4 then some true
 else
 optC (Zn (a1,())) none fun d5=>
 bif !d5 then some true
 else
 bif decide (a2<1) then some true
 else
 bif decide (a2>4) then some true
 else
 optC
 (ZaX
 (([3],[4],2,
 [(3,
 [(1,0,0,0,0,a0,0,IntKind.i64.wrap (0+1),0)]++[(1,1,0,0,0,a1,0,IntKind.i64.wrap (IntKind.i64.wrap (0+1)+1),0)] ++
 [(4,2,0,1,0,0,a2,IntKind.i64.wrap (IntKind.i64.wrap (IntKind.i64.wrap (0+1)+1)+1),0)] ++
 [(14,0,0,0,0,0,0,
 (↑((([(1,0,0,0,0,a0,0,0,0),(1,1,0,0,0,a1,0,0,0),(4,2,0,1,0,0,a2,0,0)].set (Int.toNat (0:Int))
 (1,0,0,0,0,a0,0,IntKind.i64.wrap (0+1),0)).set
 (IntKind.i64.wrap (0+1)).toNat (1,1,0,0,0,a1,0,IntKind.i64.wrap (IntKind.i64.wrap (0+1)+1),0)).set
 (IntKind.i64.wrap (IntKind.i64.wrap (0+1)+1)).toNat
 (4,2,0,1,0,0,a2,IntKind.i64.wrap (IntKind.i64.wrap (IntKind.i64.wrap (0+1)+1)+1),0)).length :
 Int),
 0)])]),
 0,[],()))
 none fun d6=>
 optC (Z5N (a2,a0,a1,())) none fun d7=>
 bif !d6.2.2.2.2.2 then some false
 else
 bif (↑(List.length d6.1):Int) !=4 then some false
 else
 bif d7.2.1 !=0 then
 optC d6.1[Int.toNat 3]? none fun d8=>
 bif !d8.1 then
 bif (↑(List.length d6.2.2.2.1):Int)==1 then
 optC d6.2.2.2.1[Int.toNat (0:Int)]? none fun d9=>
 bif d9.1==1&&(d9.2.1==0&&(d9.2.2.1==2&&(d9.2.2.2.1==d7.2.1&&(d9.2.2.2.2.1==0&&d9.2.2.2.2.2==0)))) then
 optC (ZO ()) none fun d10=>some d10
 else some false
 else some false
 else some false
 else
 optC d6.1[Int.toNat 3]? none fun d8=>
 bif d8.1 then
 optC d6.1[Int.toNat 3]? none fun d9=>
 bif (↑(List.length d9.2.1):Int)==3 then
 optC d6.1[Int.toNat 3]? none fun d10=>
 optC d10.2.1[Int.toNat 2]? none fun d11=>
 bif d11.1==d7.1&&d11.2==d7.1 then
 bif (↑(List.length d6.2.2.2.1):Int)==0 then optC (ZO ()) none fun d12=>some d12 else some false
 else some false
 else some false
 else some false
theorem Z5T (a0 a1 a2:Int):evGX (cxU Z5P [] 40 (1048576 ^ 9)) keeps 8 8 Z5O (.dat .bool) ((a0,a1,a2,()):(Int×(Int×(Int×Unit))))=Z5K a0 a1 a2:=by kernel_rfl
def Z5X (x:(Int×(Int×(Int×Unit)))):Option Bool:=Z5K x.1 x.2.1 x.2.2.1
def Z5S:List AV→Prog AV:=conP true Z5O (.dat .bool) Z5X
theorem Z59:Zd Tryz.prog 8 Z5S:=Zc (calU Z5P [] 40 (1048576 ^ 9) 8 8) true (by rfl) (by rfl) (fun x r e=>(Zg _ _ _ _ _ _ _).trans ((Z5T x.1 x.2.1 x.2.2.1).trans e)) (.inl rfl)
end
def lnC (a b op:Int):C:=(3,[(1,0,0,0,0,a,0,1,0),(1,1,0,0,0,b,0,2,0),(4,2,0,1,0,0,op,3,0),(14,0,0,0,0,0,0,3,0)])
def lnU (a b op:Int):U:=([3],[4],2,[lnC a b op])
theorem Z6i {a b op:Int} (fa:fitB a=true) (fb:fitB b=true) (hop:op=1∨op=2∨op=3∨op=4):unitOK (lnU a b op)∧fwd (lnC a b op):=by
 refine ⟨Z6c ?_ (fun n hn=>by rw [List.mem_singleton.1 hn];rfl) fun c hc x hx=>?_,Z6e ?_⟩
 ·rcases hop with rfl | rfl | rfl | rfl<;>rfl
 ·rw [List.mem_singleton.1 hc] at hx
  simp only [lnC,List.mem_cons,List.not_mem_nil,or_false] at hx
  rcases hx with rfl | rfl | rfl | rfl
  ·exact fa
  ·exact fb
  ·rfl
  ·rfl
 ·rcases hop with rfl | rfl | rfl | rfl<;>rfl
def Z5L:E:=(true,[(0,0),(0,0),(0,0)],[(3,3)],[(0,0)],0,0)
def Z5M (a:Int):E:=(true,[(a,a),(0,0),(0,0)],[(3,3)],[(0,0)],0,0)
def Z5J (a b:Int):E:=(true,[(a,a),(b,b),(0,0)],[(3,3)],[(0,0)],0,0)
theorem Z6h (a b op:Int):oV (lnU a b op) 0 2 (Z5J a b) [] (4,2,0,1,0,0,op,3,0)=(bif empB (doI op (a,a) (b,b)).1 then offE else setE (Z5J a b) 2 (doI op (a,a) (b,b)).1,offE,(bif (doI op (a,a) (b,b)).2.1 then [7] else [])++(bif (doI op (a,a) (b,b)).2.2 then [8] else []),[],[]):=rfl
theorem Z52 {a b op:Int} (fa:fitB a=true) (fb:fitB b=true) (hop:op=1∨op=2∨op=3∨op=4) {X:E} {al:List Int} (o2:oV (lnU a b op) 0 2 (Z5J a b) [] (4,2,0,1,0,0,op,3,0)=(X,offE,al,[],[]))
  (hX:comeF 3 X [Z5L,Z5M a,Z5J a b,offE]=[Z5L,Z5M a,Z5J a b,X]) (h3:oV (lnU a b op) 0 3 X [] (14,0,0,0,0,0,0,3,0)=(offE,offE,[],[],[])) :
  ∃ r,Zrb (lnU a b op) 0 []=some ([Z5L,Z5M a,Z5J a b,X],[],[],al.map (fun e=>((1,0,2,e,0,0):Al)),r,true):=by
 obtain ⟨hu,hf⟩:=Z6i fa fb hop
 have he:Qp (stepF (lnU a b op) 0 []) 0 (lnC a b op).2 (es0 (lnU a b op) (lnC a b op))=[Z5L,Z5M a,Z5J a b,X]:=by
  have s0:stepF (lnU a b op) 0 [] 0 (es0 (lnU a b op) (lnC a b op)) (1,0,0,0,0,a,0,1,0)=[Z5L,Z5M a,offE,offE]:=rfl
  have s1:stepF (lnU a b op) 0 [] 1 [Z5L,Z5M a,offE,offE] (1,1,0,0,0,b,0,2,0)=[Z5L,Z5M a,Z5J a b,offE]:=rfl
  have s2:stepF (lnU a b op) 0 [] 2 [Z5L,Z5M a,Z5J a b,offE] (4,2,0,1,0,0,op,3,0)=[Z5L,Z5M a,Z5J a b,X]:=by
   show comeF 0 (oV _ _ 2 (Z5J a b) _ _).2.1 (comeF 3 (oV _ _ 2 (Z5J a b) _ _).1 _)=_
   rw [o2]
   exact hX
  have s3:stepF (lnU a b op) 0 [] 3 [Z5L,Z5M a,Z5J a b,X] (14,0,0,0,0,0,0,3,0)=[Z5L,Z5M a,Z5J a b,X]:=by
   show comeF 0 (oV _ _ 3 X _ _).2.1 (comeF 3 (oV _ _ 3 X _ _).1 _)=_
   rw [h3]
   rfl
  show stepF _ _ _ 3 (stepF _ _ _ 2 (stepF _ _ _ 1 (stepF _ _ _ 0 _ _) _) _) _=_
  rw [s0,s1,s2,s3]
 have hg:Qp (gatS (lnU a b op) 0 [] [Z5L,Z5M a,Z5J a b,X]) 0 (lnC a b op).2 ([],[],[])=([],[],al.map (fun e=>((1,0,2,e,0,0):Al))):=by
  have s0:gatS (lnU a b op) 0 [] [Z5L,Z5M a,Z5J a b,X] 0 ([],[],[]) (1,0,0,0,0,a,0,1,0)=([],[],[]):=rfl
  have s1:gatS (lnU a b op) 0 [] [Z5L,Z5M a,Z5J a b,X] 1 ([],[],[]) (1,1,0,0,0,b,0,2,0)=([],[],[]):=rfl
  have s2:gatS (lnU a b op) 0 [] [Z5L,Z5M a,Z5J a b,X] 2 ([],[],[]) (4,2,0,1,0,0,op,3,0)=([],[],al.map (fun e=>((1,0,2,e,0,0):Al))):=by
   show gatN 0 2 ([],[],[]) (oV _ _ 2 (Z5J a b) _ _)=_
   rw [o2]
   rfl
  have s3:gatS (lnU a b op) 0 [] [Z5L,Z5M a,Z5J a b,X] 3 ([],[],al.map (fun e=>((1,0,2,e,0,0):Al))) (14,0,0,0,0,0,0,3,0)=([],[],al.map (fun e=>((1,0,2,e,0,0):Al))):=by
   show gatN 0 3 _ (oV _ _ 3 X _ _)=_
   rw [h3]
   exact congrArg (fun q:List Al=>(([],[],q):Ga)) (List.append_nil _)
  show gatS _ _ _ _ 3 (gatS _ _ _ _ 2 (gatS _ _ _ _ 1 (gatS _ _ _ _ 0 _ _) _) _) _=_
  rw [s0,s1,s2,s3]
 obtain ⟨z,h,_⟩:=Z6b (u:=lnU a b op) (t:=0) (l:=[]) (c:=lnC a b op) hu (by decide) Z5a (by decide) rfl hf he hg
 exact ⟨z,h⟩
theorem Z6k (a b op:Int):Z5K a b op=some true:=by
 unfold Z5K
 simp only [Zn,Qq,Zb]
 cases fa:fitB a
 ·rfl
 cases fb:fitB b
 ·rfl
 by_cases h1:op<1
 ·rw [decide_eq_true h1];rfl
 by_cases h2:op>4
 ·rw [decide_eq_false h1,decide_eq_true h2];rfl
 rw [decide_eq_false h1,decide_eq_false h2]
 simp only [Bool.not_true,cond_false]
 show optC (Zrb (lnU a b op) 0 []) none _=_
 have hop:op=1∨op=2∨op=3∨op=4:=by omega
 have rd:=Z58 op (by omega) (by omega) fa fb
 have o2:=Z6h a b op
 rcases Z47 op (by omega) (by omega) fa fb with ⟨d2,df,dr⟩ | ⟨d2,dr⟩ | ⟨d2,dr⟩
 ·rw [dr] at o2
  generalize hn:(doR op a b).1=n at *
  have hE:empB (n,n)=false:=by simp [empB]
  simp only [hE,cond_false] at o2
  obtain ⟨r,h⟩:=Z52 fa fb hop (X:=(true,[(a,a),(b,b),(n,n)],[(3,3)],[(0,0)],0,0)) (al:=[]) o2 rfl rfl
  simp only [h,Zb,Z5N,rd,hn,d2,Bool.not_true,cond_false]
  simp only [ZO,ZyT]
  have q:(n==n)=true:=by simp
  show (bif (n==n&&n==n) then _ else _)=_
  rw [q]
  rfl
 ·rw [dr] at o2
  obtain ⟨r,h⟩:=Z52 fa fb hop (X:=offE) (al:=[7]) o2 rfl rfl
  simp only [h,Zb,Z5N,rd,d2,Bool.not_true,cond_false]
  simp only [ZO,ZyT]
  rfl
 ·rw [dr] at o2
  obtain ⟨r,h⟩:=Z52 fa fb hop (X:=offE) (al:=[8]) o2 rfl rfl
  simp only [h,Zb,Z5N,rd,d2,Bool.not_true,cond_false]
  simp only [ZO,ZyT]
  rfl
end
end Go.Proofs.YtbdcblpjemmipaaGreat.Ex
