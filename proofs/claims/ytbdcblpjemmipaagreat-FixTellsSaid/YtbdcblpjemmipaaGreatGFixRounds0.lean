/- A part of the proofs of what is known of threads: GFixRounds0. -/
import Derived.Test.YtbdcblpjemmipaaGreatGA
import Derived.Test.YtbdcblpjemmipaaGreatGC
import Derived.Test.YtbdcblpjemmipaaGreatGG
import Derived.Test.YtbdcblpjemmipaaGreatGF
import Derived.Test.YtbdcblpjemmipaaGreatGH
import Derived.Test.YtbdcblpjemmipaaGreatGI
namespace Go.Proofs.YtbdcblpjemmipaaGreat.Ex
open Go.Proofs
set_option maxRecDepth 100000
set_option maxHeartbeats 4000000
set_option linter.unusedVariables false
set_option linter.unusedSimpArgs false
set_option linter.unusedSectionVars false
noncomputable section
section
theorem ZKi (x y:I):leqB x (iJoin x y)=true:=by
 simp only [leqB,iJoin,empB,nn,mn,mx,Bool.or_eq_true,Bool.and_eq_true,decide_eq_true_eq]
 (repeat' split)<;>simp_all<;>(try (repeat' split))<;>omega
theorem Zg6 (x y:I):iJoin x y=iJoin y x:=by
 simp only [iJoin,empB,nn,mn,mx,decide_eq_true_eq]
 (repeat' split)<;>simp_all<;>(try omega)
section
variable {a b c d:Int} (hx:a≤b) (hy:c≤d)
include hx hy
omit hx hy in
end
theorem YA {x y z:I} (h:leqB x y=true) (k:leqB y z=true):leqB x z=true:=by
 rw [QK] at *;unfold sub at *;omega
theorem ZWL (x y:I):leqB y (iJoin x y)=true:=by rw [Zg6];exact ZKi y x
end
theorem Zhz (x:I):leqB x x=true:=by rw [QK];unfold sub;omega
section
open Go.Proofs Go.Proofs.YtbdcblpjemmipaaGreat
abbrev YI:=((List I)×(List I)×Int)
abbrev JG:=Unit
abbrev JH:=Bool
def Zb0 (s0 s1:List I) (s5:Int):Option (((List I)×(List I)×Int)⊕(Unit⊕Bool)):=
 bif decide (s5<(↑s0.length:Int)) then
 bif decide (0≤s5) then
 optC s0[s5.toNat]? none fun d5=>
 optC (Zam (s1,s5,())) none fun d6=>
 optC (Hq (d5,d6,())) none fun d7=>bif !d7 then some (Sum.inr (Sum.inr false)) else some (Sum.inl (s0,s1,IntKind.i64.wrap (s5+1)))
 else none
 else some (Sum.inr (Sum.inl PUnit.unit))
def ZkZ:YI→Option (YI⊕(JG⊕JH)):=fun (a,b,c)=>Zb0 a b c
def ZfE (x:YI):Option (JG⊕JH):=iterO ZkZ Zj x
def Zi0 (a0 a1:List I):Option Bool:=
 optC (ZfE (a0,a1,0)) none fun d4=>Sum.elim (fun e5=>some true) (fun e5=>some e5) d4
def ZiI (x:((List I)×((List I)×Unit))):Option Bool:=Zi0 x.1 x.2.1
end
def ZbN (s1 s0:List I) (i:Nat)  (d:I):Option (Unit⊕(JG⊕JH)):=
 optC (Zam (s1,(i:Int),())) (none) fun d6=>
  optC (Hq (d,d6,())) (none) fun d7=>
  bif !d7 then
  some (Sum.inr (Sum.inr false))
 else some (Sum.inl ())
def Zsu (s1 s0:List I):Option (JG⊕JH):=
 some (Sum.inl PUnit.unit)
abbrev ZGM (s1 s0:List I) (i:Nat) (s:Unit):YI:=(s0,s1,(i:Int))
def Ze0 (s1 s0:List I) (s:Unit):Option (JG⊕JH):=Zl (fun i s d=>ZbN s1 s0 i  d) (fun s=>Zsu s1 s0 ) 0 s0 s
theorem Zta (s1 s0:List I) (s:Unit) (hl:s0.length<9223372036854775807):ZfE (s0,s1,0)=Ze0 s1 s0 s:=by
 unfold ZfE Ze0
 refine Zk s0 (ZGM s1 s0) _ _ ?_ ?_ s (by unfold Zj;omega)
 ·intro i s d hi hd
  have e1:decide ((i:Int)<(s0.length:Int))=true:=decide_eq_true (by omega)
  have e2:decide (0≤(i:Int))=true:=decide_eq_true (by omega)
  have e3:Int.toNat (i:Int)=i:=Int.toNat_natCast i
  have e4:=Zm hi (Nat.le_of_lt hl)
  show Zb0 (s0) (s1) ((i:Int))=upd _ (ZbN s1 s0 i  d)
  unfold Zb0 ZbN
  simp only [e1,e2,e3,e4,hd,cond_true,cond_false,Zb,Zv,Zy,Zw,ZB,ZC,Zx]
 ·intro s
  have e1:decide ((s0.length:Int)<(s0.length:Int))=false:=decide_eq_false (by omega)
  show Zb0 (s0) (s1) ((s0.length:Int))=_
  unfold Zb0 Zsu
  rw [e1]
  rfl
section
open Go.Proofs Go.Proofs.YtbdcblpjemmipaaGreat
def Zl2 (a0 a1:E):Option Bool:=
 bif !a0.1 then some true
 else
 bif a1.1 then
 optC (ZiI (a0.2.1,a1.2.1,())) none fun d3=>
 bif d3 then
 optC (ZiI (a0.2.2.1,a1.2.2.1,())) none fun d4=>
 bif d4 then
 optC (ZiI (a0.2.2.2.1,a1.2.2.2.1,())) none fun d5=>
 bif d5 then
 bif IntKind.i64.wrap (↑(BitVec.ofInt IntKind.i64.bits a1.2.2.2.2.1 &&& ~~~BitVec.ofInt IntKind.i64.bits a0.2.2.2.2.1).toNat:Int)==0 then
 some (IntKind.i64.wrap (↑(BitVec.ofInt IntKind.i64.bits a0.2.2.2.2.2 &&& ~~~BitVec.ofInt IntKind.i64.bits a1.2.2.2.2.2).toNat:Int)==0)
 else some false
 else some false
 else some false
 else some false
 else some false
def Zal (x:E×(E×Unit)):Option Bool:=Zl2 x.1 x.2.1
end
theorem ZNB (a:List I):leR a a:=⟨rfl,fun i x y hx hy=>by rw [hx] at hy;cases hy;exact Zhz x⟩
theorem ZLa {a b:Int} (ha:okB a) (hb:okB b) (s:subB a b):(IntKind.i64.wrap ((BitVec.ofInt IntKind.i64.bits a &&& ~~~BitVec.ofInt IntKind.i64.bits b).toNat:Int)==0)=true:=by
 unfold okB at *
 obtain ⟨r,h1,h2,h3⟩:=ZNk (a:=a.toNat) (b:=b.toNat) (by omega) (by omega)
 rw [show ((a.toNat:Nat):Int)=a by omega,show ((b.toNat:Nat):Int)=b by omega] at h1
 rw [h1]
 have:r=0:=Nat.eq_of_testBit_eq fun i=>by
  rw [h3,Nat.zero_testBit]
  cases q:a.toNat.testBit i
  ·rfl
  ·rw [s i q];rfl
 subst this
 rfl
def upF (f:I→I→I):Prop:=∀ u v,isB u=true→isB v=true→leqB u (f u v)=true∧leqB v (f u v)=true
theorem ZAs:upF iJoin:=fun u v _ _=>⟨ZKi u v,ZWL u v⟩
theorem ZLy (st:List Int):upF (widF st):=fun u v hu hv=>⟨(ZHa hu hv st).1,(ZHa hu hv st).2.1⟩
section
open Go.Proofs
variable {u:U} {t:Int} {a b:E}
theorem Z0A {a b:E} (ha:a.1=true) (hb:b.1=true) (h:sameE a b=true):a=b:=by
 unfold sameE at h
 rw [ha,hb] at h
 simp only [Bool.and_true,cond_true,Bool.and_eq_true,decide_eq_true_eq,beq_iff_eq] at h
 obtain ⟨on,V,G,A,must,may⟩:=a
 obtain ⟨on',V',G',A',must',may'⟩:=b
 cases ha;cases hb
 obtain ⟨rfl,rfl,rfl,rfl,rfl⟩:=h
 rfl
end
section
open Go.Proofs
theorem ZKl {a b c:List I} (h:leR a b) (k:leR b c):leR a c:=by
 refine ⟨h.1.trans k.1,fun i x z hx hz=>?_⟩
 have hi:i<a.length:=(List.getElem?_eq_some_iff.1 hx).1
 have hy:b[i]? = some (b[i]'(by rw [← h.1];exact hi)):=List.getElem?_eq_getElem _
 exact YA (h.2 i x _ hx hy) (k.2 i _ z hy hz)
theorem ZPA {a b c:Int} (h:subB a b) (k:subB b c):subB a c:=fun i q=>k i (h i q)
theorem ZR4 (a:Int):subB a a:=fun i q=>q
theorem ZNA {x:E} (h:x.1=true):leE x x:=⟨h,ZNB _,ZNB _,ZNB _,ZR4 _,ZR4 _⟩
theorem ZRB {x y z:E} (h:leE x y) (k:leE y z):leE x z:=⟨k.on,ZKl h.v k.v,ZKl h.g k.g,ZKl h.a k.a,ZPA k.must h.must,ZPA h.may k.may⟩
theorem ZzI (x:E):leO x x:=fun h=>ZNA h
theorem Zrl {x y z:E} (h:leO x y) (k:leO y z):leO x z:=fun q=>ZRB (h q) (k (h q).on)
theorem Zur {x y:Int} (hx:okB x) (hy:okB y):andI x y=((x.toNat &&& y.toNat:Nat):Int):=by
 unfold okB at *
 have h:=ZFn (a:=x.toNat) (b:=y.toNat) (by omega) (by omega)
 rw [show ((x.toNat:Nat):Int)=x by omega,show ((y.toNat:Nat):Int)=y by omega] at h
 exact h
theorem ZLo {x y:Int} (hx:okB x) (hy:okB y):orI x y=((x.toNat ||| y.toNat:Nat):Int):=by
 unfold okB at *
 have h:=ZUr (a:=x.toNat) (b:=y.toNat) (by omega) (by omega)
 rw [show ((x.toNat:Nat):Int)=x by omega,show ((y.toNat:Nat):Int)=y by omega] at h
 exact h
theorem Z39 {x y:Int} (hx:okB x) (hy:okB y):subB (andI x y) x:=fun i q=>by
 rw [Zur hx hy,Int.toNat_natCast,Nat.testBit_and,Bool.and_eq_true] at q
 exact q.1
theorem Z0T {x y:Int} (hx:okB x) (hy:okB y):subB (andI x y) y:=fun i q=>by
 rw [Zur hx hy,Int.toNat_natCast,Nat.testBit_and,Bool.and_eq_true] at q
 exact q.2
theorem Z44 {x y:Int} (hx:okB x) (hy:okB y):subB x (orI x y):=fun i q=>by
 rw [ZLo hx hy,Int.toNat_natCast,Nat.testBit_or,q,Bool.true_or]
theorem Z45 {x y:Int} (hx:okB x) (hy:okB y):subB y (orI x y):=fun i q=>by
 rw [ZLo hx hy,Int.toNat_natCast,Nat.testBit_or,q,Bool.or_true]
theorem ZVt {F:I→I→I} {a b:List I} {i:Nat} {z:I} (h:(zipI F a b)[i]? = some z):∃ x,a[i]? = some x∧z=F x (rowAt b i):=by
 unfold zipI at h
 rw [List.getElem?_mapIdx] at h
 cases e:a[i]? with
 | none=>rw [e] at h;cases h
 | some x=>rw [e] at h;exact ⟨x,rfl,(Option.some.inj h).symm⟩
theorem ZEL {b:List I} {i:Nat} {y:I} (h:b[i]? = some y):rowAt b i=y:=by unfold rowAt;rw [h];rfl
theorem ZQ5 {F:I→I→I} (hF:upF F) {a b:List I} (hl:a.length=b.length) (ha:∀ x∈a,isB x=true) (hb:∀ x∈b,isB x=true):leR a (zipI F a b):=by
 refine ⟨(ZyV F a b).symm,fun i x z hx hz=>?_⟩
 obtain ⟨x',h1,rfl⟩:=ZVt hz
 rw [hx] at h1;cases h1
 have hi:i<b.length:=by rw [← hl];exact (List.getElem?_eq_some_iff.1 hx).1
 rw [ZEL (List.getElem?_eq_getElem hi)]
 exact (hF x b[i] (ha x (List.mem_of_getElem? hx)) (hb _ (List.getElem_mem hi))).1
theorem ZQ6 {F:I→I→I} (hF:upF F) {a b:List I} (hl:a.length=b.length) (ha:∀ x∈a,isB x=true) (hb:∀ x∈b,isB x=true):leR b (zipI F a b):=by
 refine ⟨by rw [ZyV,hl],fun i y z hy hz=>?_⟩
 obtain ⟨x,h1,rfl⟩:=ZVt hz
 rw [ZEL hy]
 exact (hF x y (ha x (List.mem_of_getElem? h1)) (hb y (List.mem_of_getElem? hy))).2
def upL (es es':List E):Prop:=∀ (i:Nat) (x:E),es[i]? = some x→∃ y,es'[i]? = some y∧leO x y
theorem ZG9 (es:List E):upL es es:=fun i x h=>⟨x,h,ZzI x⟩
theorem ZBR {a b c:List E} (h:upL a b) (k:upL b c):upL a c:=fun i x hx=>by
 obtain ⟨y,hy,q⟩:=h i x hx
 obtain ⟨z,hz,w⟩:=k i y hy
 exact ⟨z,hz,Zrl q w⟩
theorem ZXb {a b:E} (ha:a.1=true) (h:sameE a b=true):a=b:=by
 cases hb:b.1
 ·unfold sameE at h
  rw [ha,hb] at h
  have h':(true==false)=true:=h
  exact absurd h' (by decide)
 ·exact Z0A ha hb h
section
variable {u:U} {t:Int} {l:List En} {st:List Int} {c:C} {a b:E}
theorem ZPR (ha:envOK u t a) (hb:envOK u t b):a.2.1.length=b.2.1.length∧a.2.2.1.length=b.2.2.1.length∧a.2.2.2.1.length=b.2.2.2.1.length:=by
 obtain ⟨c,hc,h1⟩:=ha.c
 obtain ⟨c',hc',h2⟩:=hb.c
 rw [hc] at hc';cases hc'
 have:=ha.g
 have:=hb.g
 have:=ha.a
 have:=hb.a
 exact ⟨by omega,by omega,by omega⟩
theorem Z1r {F:I→I→I} (hF:upF F) (ha:envOK u t a) (hb:envOK u t b):leE a (mrg F a b):=by
 obtain ⟨l1,l2,l3⟩:=ZPR ha hb
 exact ⟨rfl,ZQ5 hF l1 (fun x k=>(envV ha x k).1) fun x k=>(envV hb x k).1,ZQ5 hF l2 (fun x k=>(envG ha x k).1) fun x k=>(envG hb x k).1,ZQ5 hF l3 (fun x k=>(envA ha x k).1) fun x k=>(envA hb x k).1,Z39 ha.must hb.must,Z44 ha.may hb.may⟩
theorem Z1s {F:I→I→I} (hF:upF F) (ha:envOK u t a) (hb:envOK u t b):leE b (mrg F a b):=by
 obtain ⟨l1,l2,l3⟩:=ZPR ha hb
 exact ⟨rfl,ZQ6 hF l1 (fun x k=>(envV ha x k).1) fun x k=>(envV hb x k).1,ZQ6 hF l2 (fun x k=>(envG ha x k).1) fun x k=>(envG hb x k).1,ZQ6 hF l3 (fun x k=>(envA ha x k).1) fun x k=>(envA hb x k).1,Z0T ha.must hb.must,Z45 ha.may hb.may⟩
theorem ZKj {F:I→I→I} (hF:upF F) (ha1:a.1=true) (ha:envOK u t a) (hb:b.1=true→envOK u t b):leE a (eJoin F a b):=by
 unfold eJoin
 rw [ha1,cond_true]
 cases hb1:b.1
 ·exact ZNA ha1
 ·exact Z1r hF ha (hb hb1)
theorem ZKk {F:I→I→I} (hF:upF F) (ha:a.1=true→envOK u t a) (hb1:b.1=true) (hb:envOK u t b):leE b (eJoin F a b):=by
 unfold eJoin
 rw [hb1]
 cases ha1:a.1
 ·exact ZNA hb1
 ·exact Z1s hF (ha ha1) hb
theorem ZYY {fr to:Int} {old e:E} {n:Int} (ho:okE u t old) (he1:e.1=true) (he:envOK u t e):leE e (nxtV st fr to old e n)∧leO old (nxtV st fr to old e n):=by
 have k1:=Zl4 (F:=iJoin) (a:=old) he1
 have k2:=ZnK ZzO ho.env (fun _=>he) k1
 have u1:=ZKk ZAs ho.env he1 he
 have u2:leO old (eJoin iJoin old e):=fun h=>ZKj ZAs h (ho.env h) fun _=>he
 unfold nxtV
 split
 ·exact ⟨ZRB u1 (ZKk (ZLy st) ho.env k1 k2),fun h=>ZKj (ZLy st) h (ho.env h) fun _=>k2⟩
 ·exact ⟨u1,u2⟩
theorem ZOl {fr to:Int} {e:E} {es:List E} {ns:List Int} (hes:∀ x∈es,okE u t x) (he:e.1=true→envOK u t e) (h1:to.toNat<es.length) (hl:ns.length=es.length) (h:(comeV st fr to e es ns).1=false) :
  comeV st fr to e es ns=(false,es,ns)∧∃ y,es[to.toNat]? = some y∧leO e y:=by
 have g1:es[to.toNat]? = some es[to.toNat]:=List.getElem?_eq_getElem h1
 have g2:ns[to.toNat]? = some (ns[to.toNat]'(by omega)):=List.getElem?_eq_getElem _
 have ho:=hes _ (List.getElem_mem h1)
 generalize es[to.toNat]=old at g1 ho
 generalize ns[to.toNat]'(by omega)=n at g2
 unfold comeV at h ⊢
 cases he1:e.1
 ·exact ⟨by simp only [he1,g1,g2],old,g1,fun k=>by rw [he1] at k;cases k⟩
 ·simp only [he1,g1,g2] at h ⊢
  cases q:sameE (nxtV st fr to old e n) old
  ·rw [q] at h;cases h
  ·refine ⟨rfl,old,rfl,fun _=>?_⟩
   have hn:=ZYX (st:=st) (fr:=fr) (to:=to) (n:=n) ho he1 (he he1)
   have k:=(ZYY (st:=st) (fr:=fr) (to:=to) (n:=n) ho he1 (he he1)).1
   rw [ZXb hn.1 q] at k
   exact k
theorem ZWo {fr to:Int} {e:E} {es:List E} {ns:List Int} (hes:∀ x∈es,okE u t x) (he:e.1=true→envOK u t e):upL es (comeV st fr to e es ns).2.1:=by
 intro i x hx
 have keep:∃ y,es[i]? = some y∧leO x y:=⟨x,hx,ZzI x⟩
 unfold comeV
 split
 ·rename_i old n he1 g1 g2
  cases sameE (nxtV st fr to old e n) old
  ·simp only [cond_false]
   by_cases q:to.toNat=i
   ·subst q
    rw [g1] at hx;cases hx
    exact ⟨_,List.getElem?_set_self ((List.getElem?_eq_some_iff.1 g1).1),(ZYY (hes _ (List.mem_of_getElem? g1)) he1 (he he1)).2⟩
   ·exact ⟨x,by rw [List.getElem?_set_ne q];exact hx,ZzI x⟩
  ·exact keep
 ·exact keep
def ZaM (u:U) (t:Int) (l:List En) (es:List E) (i:Nat) (d:A):Prop:=
 ∃ x y,es[d.2.2.2.2.2.2.2.1.toNat]? = some x∧es[d.2.2.2.2.2.2.2.2.toNat]? = some y∧leO (outV u t i ((es[i]?).getD offE) l).1 x∧leO (outV u t i ((es[i]?).getD offE) l).2.1 y
theorem Z0k (hu:unitOK u) (ht:0≤t) (hl:tabOK l) (hn:l.length≤1000) (hc:u.2.2.2[t.toNat]? = some c) {s:St3} (v:Inv u t c.2.length s.2.1 s.2.2) {i:Nat} {d:A} (hd:c.2[i]? = some d) :
  Inv u t c.2.length (nodeV u t l st i s d).2.1 (nodeV u t l st i s d).2.2∧upL s.2.1 (nodeV u t l st i s d).2.1 ∧
  ((nodeV u t l st i s d).1=false→nodeV u t l st i s d=s∧s.1=false∧ZaM u t l s.2.1 i d):=by
 obtain ⟨b,es,ns⟩:=s
 simp only at v
 have hi:=(List.getElem?_eq_some_iff.1 hd).1
 have ha:=(hu.ts c (List.mem_of_getElem? hc)).a d (List.mem_of_getElem? hd)
 have hie:i<es.length:=by rw [v.le];exact hi
 have ge:es[i]? = some es[i]:=List.getElem?_eq_getElem hie
 obtain ⟨_,_,o3,_⟩:=Zog hu ht hl hn hc (v.ok _ (List.getElem_mem hie)) hi
 have hx:=ha.nx
 have hy:=ha.el
 have ve:=v.le
 have vn:=v.ln
 have hN:nodeV u t l st i (b,es,ns) d=(b||(comeV st i d.2.2.2.2.2.2.2.1 (outV u t i es[i] l).1 es ns).1||(comeV st i d.2.2.2.2.2.2.2.2 (outV u t i es[i] l).2.1 (comeV st i d.2.2.2.2.2.2.2.1 (outV u t i es[i] l).1 es ns).2.1 (comeV st i d.2.2.2.2.2.2.2.1 (outV u t i es[i] l).1 es ns).2.2).1,
   (comeV st i d.2.2.2.2.2.2.2.2 (outV u t i es[i] l).2.1 (comeV st i d.2.2.2.2.2.2.2.1 (outV u t i es[i] l).1 es ns).2.1 (comeV st i d.2.2.2.2.2.2.2.1 (outV u t i es[i] l).1 es ns).2.2).2):=by
  unfold nodeV
  simp only [ge,Option.getD_some]
 rw [hN]
 have hA:ZaM u t l es i d↔∃ x y,es[d.2.2.2.2.2.2.2.1.toNat]? = some x∧es[d.2.2.2.2.2.2.2.2.toNat]? = some y∧leO (outV u t i es[i] l).1 x∧leO (outV u t i es[i] l).2.1 y:=by
  unfold ZaM
  simp only [ge,Option.getD_some]
 simp only [hA]
 clear hN hA
 generalize outV u t i es[i] l=o at o3
 have c1:=ZLg (st:=st) (fr:=(i:Int)) (to:=d.2.2.2.2.2.2.2.1) (e:=o.1) (ns:=ns) v.ok o3.nx
 have u1:=ZWo (st:=st) (fr:=(i:Int)) (to:=d.2.2.2.2.2.2.2.1) (e:=o.1) (ns:=ns) v.ok o3.nx
 have s1:=ZOl (st:=st) (fr:=(i:Int)) (to:=d.2.2.2.2.2.2.2.1) (e:=o.1) (ns:=ns) v.ok o3.nx (by omega) (by omega)
 generalize comeV st i d.2.2.2.2.2.2.2.1 o.1 es ns=r at c1 u1 s1
 have c2:=ZLg (st:=st) (fr:=(i:Int)) (to:=d.2.2.2.2.2.2.2.2) (e:=o.2.1) (ns:=r.2.2) c1.1 o3.el
 have u2:=ZWo (st:=st) (fr:=(i:Int)) (to:=d.2.2.2.2.2.2.2.2) (e:=o.2.1) (ns:=r.2.2) c1.1 o3.el
 have s2:=ZOl (st:=st) (fr:=(i:Int)) (to:=d.2.2.2.2.2.2.2.2) (e:=o.2.1) (ns:=r.2.2) c1.1 o3.el (by omega) (by omega)
 generalize comeV st i d.2.2.2.2.2.2.2.2 o.2.1 r.2.1 r.2.2=q at c2 u2 s2
 refine ⟨⟨c2.1,c2.2.1.trans (c1.2.1.trans v.le),c2.2.2.trans (c1.2.2.trans v.ln)⟩,ZBR u1 u2,fun h=>?_⟩
 simp only [Bool.or_eq_false_iff] at h
 obtain ⟨⟨rfl,h1⟩,h2⟩:=h
 obtain ⟨rfl,x,gx,lx⟩:=s1 h1
 obtain ⟨rfl,y,gy,ly⟩:=s2 h2
 exact ⟨rfl,rfl,x,y,gx,gy,lx,ly⟩
theorem ZRV (hu:unitOK u) (ht:0≤t) (hl:tabOK l) (hn:l.length≤1000) (hc:u.2.2.2[t.toNat]? = some c):∀ (r:List A) (i:Nat) (s:St3),c.2.drop i=r→Inv u t c.2.length s.2.1 s.2.2→
  Inv u t c.2.length (Qp (fun i s d=>nodeV u t l st i s d) i r s).2.1 (Qp (fun i s d=>nodeV u t l st i s d) i r s).2.2∧upL s.2.1 (Qp (fun i s d=>nodeV u t l st i s d) i r s).2.1 ∧
  ((Qp (fun i s d=>nodeV u t l st i s d) i r s).1=false→Qp (fun i s d=>nodeV u t l st i s d) i r s=s∧s.1=false∧∀ (j:Nat) (d:A),r[j]? = some d→ZaM u t l s.2.1 (i+j) d)
 | [],i,s,_,v=>⟨v,ZG9 _,fun h=>⟨rfl,h,fun j d k=>by simp at k⟩⟩
 | d::r,i,s,hd,v=>by
  have e:c.2[i]? = some d:=by
   have:=congrArg (fun q=>q[0]?) hd
   simpa using this
  obtain ⟨n1,n2,n3⟩:=Z0k (st:=st) hu ht hl hn hc v e
  obtain ⟨h1,h2,h3⟩:=ZRV hu ht hl hn hc r (i+1) (nodeV u t l st i s d) (by rw [← List.drop_drop,hd];rfl) n1
  rw [Qp]
  refine ⟨h1,ZBR n2 h2,fun h=>?_⟩
  obtain ⟨k1,k2,k3⟩:=h3 h
  obtain ⟨q1,q2,q3⟩:=n3 k2
  rw [q1] at k1 k3
  refine ⟨by rw [q1];exact k1,q2,fun j d' hj=>?_⟩
  cases j with
  | zero=>rw [List.getElem?_cons_zero] at hj;cases hj;exact q3
  | succ j=>
   rw [List.getElem?_cons_succ] at hj
   have:=k3 j d' hj
   rw [show i+(j+1)=i+1+j by omega]
   exact this
theorem ZW8 (hu:unitOK u) (ht:0≤t) (hl:tabOK l) (hn:l.length≤1000) (hc:u.2.2.2[t.toNat]? = some c):∀ (n:Nat) (es:List E) (ns:List Int) (r:Int) (d:Bool),Inv u t c.2.length es ns→
  Inv u t c.2.length (runV u t l st c n es ns r d).1 (runV u t l st c n es ns r d).2.1∧upL es (runV u t l st c n es ns r d).1∧r≤(runV u t l st c n es ns r d).2.2.1∧(runV u t l st c n es ns r d).2.2.1≤r+n ∧
  ((runV u t l st c n es ns r d).2.2.2=true∨(runV u t l st c n es ns r d).2.2.1=r+n)∧(d=false→1≤n→r+1≤(runV u t l st c n es ns r d).2.2.1) ∧
  (d=false→(runV u t l st c n es ns r d).2.2.2=true→∀ (j:Nat) (a:A),c.2[j]? = some a→ZaM u t l (runV u t l st c n es ns r d).1 j a)
 | 0,es,ns,r,d,v=>⟨v,ZG9 _,Int.le_refl _,by simp [runV],.inr (by simp [runV]),fun _ h=>by omega,fun h k=>by simp only [runV] at k;rw [h] at k;cases k⟩
 | n+1,es,ns,r,true,v=>⟨v,ZG9 _,Int.le_refl _,by simp only [runV,cond_true];omega,.inl rfl,(fun h=>nomatch h),fun h=>nomatch h⟩
 | n+1,es,ns,r,false,v=>by
  obtain ⟨h1,h2,h3⟩:=ZRV (st:=st) hu ht hl hn hc c.2 0 (false,es,ns) rfl v
  rw [show runV u t l st c (n+1) es ns r false=runV u t l st c n (ZX u t l st c es ns).2.1 (ZX u t l st c es ns).2.2 (r+1) (!(ZX u t l st c es ns).1) from rfl]
  have h1:Inv u t c.2.length (ZX u t l st c es ns).2.1 (ZX u t l st c es ns).2.2:=h1
  have h2:upL es (ZX u t l st c es ns).2.1:=h2
  have h3:(ZX u t l st c es ns).1=false→ZX u t l st c es ns=(false,es,ns)∧_∧∀ (j:Nat) (d:A),c.2[j]? = some d→ZaM u t l es (0+j) d:=h3
  obtain ⟨i1,i2,i3,i4,i5,i6,i7⟩:=ZW8 hu ht hl hn hc n (ZX u t l st c es ns).2.1 (ZX u t l st c es ns).2.2 (r+1) (!(ZX u t l st c es ns).1) h1
  refine ⟨i1,ZBR h2 i2,by omega,by omega,?_,fun _ _=>i3,fun _ hd j a ha=>?_⟩
  ·rcases i5 with k | k
   ·exact .inl k
   ·exact .inr (by omega)
  ·cases hb:(ZX u t l st c es ns).1
   ·obtain ⟨k1,_,k3⟩:=h3 hb
    have e:runV u t l st c n (ZX u t l st c es ns).2.1 (ZX u t l st c es ns).2.2 (r+1) (!false)=(es,ns,r+1,true):=by
     rw [k1]
     cases n<;>rfl
    rw [e]
    have:=k3 j a ha
    rwa [Nat.zero_add] at this
   ·rw [hb] at i7 hd
    exact i7 rfl hd j a ha
end
end
section
open Go.Proofs
theorem ZXX {α:Type} {f:α→Int} {k:Int}:∀ {L:List α},(∀ a∈L,f a=k)→L.Pairwise fun a b=>f a≤f b
 | [],_=>.nil
 | a::r,h=>List.pairwise_cons.2 ⟨fun b hb=>by rw [h a (by simp),h b (by simp [hb])];exact Int.le_refl _,ZXX fun b hb=>h b (by simp [hb])⟩
section
variable {u:U} {t:Int} {l:List En} {st:List Int} {c:C}
theorem ZZ2 {es:List E} {i:Nat} {s:Ga} {e:E} {o:O} (he:es[i]? = some e) (h:outOK u t i e o) (A:AcInv es t i s.2.1) (B:AlInv es t i s.2.2) :
  AcInv es t ((i+1:Nat):Int) (gatN t i s o).2.1∧AlInv es t ((i+1:Nat):Int) (gatN t i s o).2.2:=by
 have on:∀ {α:Type} {x:α} {L:List α},(e.1=false→L=[])→x∈L→e.1=true:=fun hL hx=>by
  cases q:e.1
  ·rw [hL q] at hx;cases hx
  ·rfl
 have gi:es[((i:Int)).toNat]? = some e:=by rw [Int.toNat_natCast];exact he
 refine ⟨⟨fun a ha=>?_,?_⟩,⟨fun a ha=>?_,?_⟩⟩
 ·rcases List.mem_append.1 ha with k | k
  ·obtain ⟨h1,h2,h3,h4⟩:=A.ent a k
   exact ⟨h1,h2,by omega,h4⟩
  ·obtain ⟨h1,h2,h3⟩:=h.ac.2 a k
   have:=on (fun q=>by rw [h.off q]) k
   exact ⟨h1,by omega,by omega,e,by rw [h2];exact gi,this,h3⟩
 ·refine List.pairwise_append.2 ⟨A.up,ZXX fun a k=>(h.ac.2 a k).2.1,fun a ha b hb=>?_⟩
  have:=(A.ent a ha).2.2.1
  have:=(h.ac.2 b hb).2.1
  omega
 ·rcases List.mem_append.1 ha with k | k
  ·obtain ⟨h1,h2,h3,h4,h5⟩:=B.ent a k
   exact ⟨h1,h2,h3,by omega,h5⟩
  ·obtain ⟨x,hx,rfl⟩:=List.mem_map.1 k
   have:=on (fun q=>by rw [h.off q]) hx
   exact ⟨rfl,rfl,by show 0≤(i:Int);omega,by show (i:Int)<_;omega,⟨e,gi,this⟩,h.al.2 x hx⟩
 ·refine List.pairwise_append.2 ⟨B.up,ZXX (f:=fun a:Al=>a.2.2.1) (k:=(i:Int)) fun a k=>?_,fun a ha b hb=>?_⟩
  ·obtain ⟨x,hx,rfl⟩:=List.mem_map.1 k
   rfl
  ·obtain ⟨x,hx,rfl⟩:=List.mem_map.1 hb
   have:=(B.ent a ha).2.2.2.1
   show a.2.2.1≤(i:Int)
   omega
theorem ZRu (hu:unitOK u) (ht:0≤t) (hl:tabOK l) (hn:l.length≤1000) (hc:u.2.2.2[t.toNat]? = some c) {es:List E} {ns:List Int} (v:Inv u t c.2.length es ns) :
  ∀ (r:List A) (i:Nat) (s:Ga),c.2.drop i=r→i+r.length=c.2.length→AcInv es t i s.2.1→AlInv es t i s.2.2→
  AcInv es t c.2.length (gatV u t l es i r s).2.1∧AlInv es t c.2.length (gatV u t l es i r s).2.2
 | [],i,s,hd,hi,A,B=>by
  have hi:i=c.2.length:=by simpa using hi
  subst hi
  exact ⟨A,B⟩
 | d::r,i,s,hd,hi,A,B=>by
  rw [List.length_cons] at hi
  have hlt:i<c.2.length:=by omega
  have hie:i<es.length:=by rw [v.le];exact hlt
  have ge:es[i]? = some es[i]:=List.getElem?_eq_getElem hie
  obtain ⟨_,_,o3,_⟩:=Zog hu ht hl hn hc (v.ok _ (List.getElem_mem hie)) hlt
  have hV:gatV u t l es i (d::r) s=gatV u t l es (i+1) r (gatN t i s (outV u t i es[i] l)):=by
   show Qp _ _ _ _=_
   rw [Qp]
   simp only [ge,Option.getD_some]
   rfl
  obtain ⟨a,b⟩:=ZZ2 ge o3 A B
  rw [hV]
  exact ZRu hu ht hl hn hc v r (i+1) _ (by rw [← List.drop_drop,hd];rfl) (by omega) a b
theorem ZZu (es:List E) (t:Int):AcInv es t ((0:Nat):Int) ([]:List Ac)∧AlInv es t ((0:Nat):Int) ([]:List Al):=⟨⟨(fun a h=>nomatch h),.nil⟩,⟨(fun a h=>nomatch h),.nil⟩⟩
end
end
section
open Go.Proofs
theorem ZWi {x y:Int} (hx:okB x) (hy:okB y) (h:subB x y):andI x y=x:=by
 rw [Zur hx hy]
 have:x.toNat &&& y.toNat=x.toNat:=Nat.eq_of_testBit_eq fun i=>by
  rw [Nat.testBit_and]
  cases q:x.toNat.testBit i
  ·rfl
  ·rw [h i q];rfl
 rw [this]
 unfold okB at hx
 omega
section
variable {u:U} {t:Int} {l l':List En} {st:List Int} {c:C} {a b z:E}
end
end
section
open Go.Proofs Go.Proofs.YtbdcblpjemmipaaGreat
def ZA1:List Sh:=[.dat (.sl tI),.dat (.sl tI)]
def Zmj:Nat→List Nat:=fun c=>bif c.beq 0 then [1,7,8,9] else [4]
def ZoL:List Con:=[⟨127,Zx8,ZGV⟩,⟨126,ZpO,Zvy⟩]
def KR:StS:=⟨[(1,.sl tI),(7,.sl tI),(8,.int .i64),(9,.int .i64)],[],0⟩
def Yk:StS:=⟨[(4,.undef)],[],0⟩
def Yl:StS:=⟨[(4,.bool)],[],0⟩
abbrev Ks:=((List I)×(List I)×Int×Int)
def ZqY:StD KR→Ks:=fun ((a,b,c,d,_),_)=>(a,b,c,d)
def ZjE:Ks→StD KR:=fun (a,b,c,d)=>((a,b,c,d,()),())
abbrev Q4:=Unit
def ZAw (d:StD Yk):Q4:=()
def Zgn (x:Q4):StD Yk:=(((),()),())
abbrev Q5:=Bool
def ZAx (d:StD Yl):Q5:=(d.1.1)
def Zgo (x:Q5):StD Yl:=((x,()),())
def Zbf (s1 s7:List I) (s8 s9:Int):Option (((List I)×(List I)×Int×Int)⊕(Unit⊕Bool)):=
 bif decide (s9<s8) then
 bif decide (0≤s9) then
 optC s7[s9.toNat]? none fun d6=>
 optC (Zhp (s1,s9,())) none fun d7=>
 optC (Q0 (d6,d7,())) none fun d8=>bif !d8 then some (Sum.inr (Sum.inr false)) else some (Sum.inl (s1,s7,s8,IntKind.i64.wrap (s9+1)))
 else none
 else some (Sum.inr (Sum.inl PUnit.unit))
def Zjm:Ks→Option (Ks⊕(Q4⊕Q5)):=fun (a,b,c,d)=>Zbf a b c d
theorem ZEz (x:Ks):rdX (cxU ZoL [] 40 1048576) keeps 8 ⟨97,21,keeps 97,0⟩ 0 (bodyX 97 0) 0 Zmj (sT KR (ZjE x)) (sH KR (ZjE x)) (rdO (fun T h=>(rdS KR T h).map ZqY) (getOr (getE 2 Yk ZAw) (getE 1 Yl ZAx)))=Zjm x:=by kernel_rfl
def Zex (x:Ks):Option (Q4⊕Q5):=iterO Zjm Zj x
def Zwq:Nat→Tm→Prog (Nat×Tm):=(varP 0 (fun T h=>(rdS KR T h).map ZqY) Zex (fun y=>.alt y (altE 2 Yk Zgn) (altE 1 Yl Zgo)) (fun _ _=>.fail))
def Zt9:Lpc:=⟨97,0,21,(fun base T=>.norm base (Zmj 0) T (Zwq base)),by kernel_rfl,by kernel_rfl,(loopU ZoL [] 40 1048576 8 (keep:=Zmj) (q:=Zwq) (by kernel_rfl) (Zp (s:=KR) (un:=ZjE) (by rfl) (fun _=>rfl) (ZR (Zi (s:=Yk) (un:=Zgn) (by rfl) (fun _=>rfl)) (Zi (s:=Yl) (un:=Zgo) (by rfl) (fun _=>rfl))) (step:=Zjm) ZEz (fun _ _ e=>⟨_,e⟩) (ZQ (Zh 2 Yk Zgn) (Zh 1 Yl Zgo)) (ZA.fail _ _)))⟩
def Zqg (a0 a1:List I):Option Bool:=
 optC (Zex (a1,a0,(↑a0.length:Int),0)) none fun d4=>Sum.elim (fun e5=>some true) (fun e5=>some e5) d4
theorem ZOZ (a0 a1:List I):evGX (cxU ZoL [Zt9] 40 1048576) keeps 8 97 ZA1 (.dat .bool) ((a0,a1,()):((List I)×((List I)×Unit)))=Zqg a0 a1:=by kernel_rfl
def ZlM (x:((List I)×((List I)×Unit))):Option Bool:=Zqg x.1 x.2.1
def ZBd:List AV→Prog AV:=conP true ZA1 (.dat .bool) ZlM
theorem ZPi:Zd Tryz.prog 97 ZBd:=Zc (calU ZoL [Zt9] 40 1048576 8 97) true (by rfl) (by rfl) (fun x r e=>(Zg _ _ _ _ _ _ _).trans ((ZOZ x.1 x.2.1).trans e)) (.inl rfl)
end
def ZdV (s1 s7:List I) (i:Nat)  (d:I):Option (Unit⊕(Q4⊕Q5)):=
 optC (Zhp (s1,(i:Int),())) (none) fun d7=>
  optC (Q0 (d,d7,())) (none) fun d8=>
  bif !d8 then
  some (Sum.inr (Sum.inr false))
 else some (Sum.inl ())
def Zra (s1 s7:List I):Option (Q4⊕Q5):=
 some (Sum.inl PUnit.unit)
abbrev ZEP (s1 s7:List I) (i:Nat) (s:Unit):Ks:=(s1,s7,(s7.length:Int),(i:Int))
def Zjd (s1 s7:List I) (s:Unit):Option (Q4⊕Q5):=Zl (fun i s d=>ZdV s1 s7 i  d) (fun s=>Zra s1 s7 ) 0 s7 s
theorem ZEq (s1 s7:List I) (s:Unit) (hl:s7.length<9223372036854775807):Zex (s1,s7,(s7.length:Int),0)=Zjd s1 s7 s:=by
 unfold Zex Zjd
 refine Zk s7 (ZEP s1 s7) _ _ ?_ ?_ s (by unfold Zj;omega)
 ·intro i s d hi hd
  have e1:decide ((i:Int)<(s7.length:Int))=true:=decide_eq_true (by omega)
  have e2:decide (0≤(i:Int))=true:=decide_eq_true (by omega)
  have e3:Int.toNat (i:Int)=i:=Int.toNat_natCast i
  have e4:=Zm hi (Nat.le_of_lt hl)
  show Zbf (s1) (s7) ((s7.length:Int)) ((i:Int))=upd _ (ZdV s1 s7 i  d)
  unfold Zbf ZdV
  simp only [e1,e2,e3,e4,hd,cond_true,cond_false,Zb,Zv,Zy,Zw,ZB,ZC,Zx]
 ·intro s
  have e1:decide ((s7.length:Int)<(s7.length:Int))=false:=decide_eq_false (by omega)
  show Zbf (s1) (s7) ((s7.length:Int)) ((s7.length:Int))=_
  unfold Zbf Zra
  rw [e1]
  rfl
section
open Go.Proofs Go.Proofs.YtbdcblpjemmipaaGreat
def Zy6:List Sh:=[.dat (.int .i64),.dat (.int .i64)]
def ZBI:List Con:=[⟨128,Zqb,ZwX⟩]
def ZD5 (a0 a1:Int):Option Bool:=
 some (IntKind.i64.wrap (↑(BitVec.ofInt IntKind.i64.bits a0 &&& BitVec.ofInt IntKind.i64.bits a1).toNat:Int)==a0)
theorem ZNN (a0 a1:Int):evGX (cxU ZBI [] 40 1048576) keeps 8 98 Zy6 (.dat .bool) ((a0,a1,()):(Int×(Int×Unit)))=ZD5 a0 a1:=by kernel_rfl
def ZPK (x:Int×(Int×Unit)):Option Bool:=ZD5 x.1 x.2.1
def Zzi:List AV→Prog AV:=conP true Zy6 (.dat .bool) ZPK
theorem ZN1:Zd Tryz.prog 98 Zzi:=Zc (calU ZBI [] 40 1048576 8 98) true (by rfl) (by rfl) (fun x r e=>(Zg _ _ _ _ _ _ _).trans ((ZNN x.1 x.2.1).trans e)) (.inl rfl)
end
section
open Go.Proofs Go.Proofs.YtbdcblpjemmipaaGreat
def ZMc:List Sh:=[.dat tE,.dat tE]
def ZPo:List Con:=[⟨97,ZBd,ZPi⟩,⟨98,Zzi,ZN1⟩]
def ZBm (a0 a1:E):Option Bool:=
 bif !a0.1 then some true
 else
 bif a1.1 then
 optC (ZlM (a0.2.1,a1.2.1,())) none fun d3=>
 bif d3 then
 optC (ZlM (a0.2.2.1,a1.2.2.1,())) none fun d4=>
 bif d4 then
 optC (ZlM (a0.2.2.2.1,a1.2.2.2.1,())) none fun d5=>
 bif d5 then
 bif
 IntKind.i64.wrap (↑(BitVec.ofInt IntKind.i64.bits a1.2.2.2.2.1 &&& BitVec.ofInt IntKind.i64.bits a0.2.2.2.2.1).toNat:Int) ==
 a1.2.2.2.2.1 then
 some
 (IntKind.i64.wrap (↑(BitVec.ofInt IntKind.i64.bits a0.2.2.2.2.2 &&& BitVec.ofInt IntKind.i64.bits a1.2.2.2.2.2).toNat:Int)==a0.2.2.2.2.2)
 else some false
 else some false
 else some false
 else some false
 else some false
theorem ZVS (a0 a1:E):evGX (cxU ZPo [] 40 1048576) keeps 8 62 ZMc (.dat .bool) ((a0,a1,()):(E×(E×Unit)))=ZBm a0 a1:=by kernel_rfl
def Zj3 (x:E×(E×Unit)):Option Bool:=ZBm x.1 x.2.1
def ZMp:List AV→Prog AV:=conP true ZMc (.dat .bool) Zj3
theorem ZV7:Zd Tryz.prog 62 ZMp:=Zc (calU ZPo [] 40 1048576 8 62) true (by rfl) (by rfl) (fun x r e=>(Zg _ _ _ _ _ _ _).trans ((ZVS x.1 x.2.1).trans e)) (.inl rfl)
end
section
open Go.Proofs Go.Proofs.YtbdcblpjemmipaaGreat
abbrev ZxW:Type:=(Int×(List E)×(List En)×(List A)×Int×Int×(List Int)×(List Int)×Int×(List C))
def ZC6:List Sh:=[.dat tU,.dat (.int .i64),.dat (.sl tE),.dat (.sl tEn)]
def ZnU:Nat→List Nat:=fun c=>bif c.beq 0 then [1,2,3,4,34,35,36] else [8]
def Zqv:List Con:=[⟨50,ZwO,ZHY⟩,⟨62,ZMp,ZV7⟩,⟨63,ZB2,ZMP⟩]
def YX:StS:=⟨[(1,.int .i64),(2,.sl tE),(3,.sl tEn),(4,.ptr 0 0),(34,.sl tA),(35,.int .i64),(36,.int .i64)],[(0,.box [.sl (.int .i64),.sl (.int .i64),.int .i64,.sl tC])],1⟩
def HB:StS:=⟨[(8,.undef)],[],0⟩
def HC:StS:=⟨[(8,.bool)],[],0⟩
abbrev YC:=ZxW
def ZrZ:StD YX→YC:=fun ((a,b,c,_,d,e,f,_),((g,h,i,j,_),_))=>(a,b,c,d,e,f,g,h,i,j)
def Zlh:YC→StD YX:=fun (a,b,c,d,e,f,g,h,i,j)=>((a,b,c,(),d,e,f,()),((g,h,i,j,()),()))
abbrev Jx:=Unit
def ZB7 (d:StD HB):Jx:=()
def ZhI (x:Jx):StD HB:=(((),()),())
abbrev Jy:=Bool
def ZB8 (d:StD HC):Jy:=(d.1.1)
def ZhJ (x:Jy):StD HC:=((x,()),())
def ZbW (s1:Int) (s2:List E) (s3:List En) (s34:List A) (s35 s36:Int) (b0 b0_1:List Int) (b0_2:Int) (b0_3:List C):Option (ZxW⊕(Unit⊕Bool)):=
 bif decide (s36<s35) then
 bif decide (0≤s36) then
 optC s34[s36.toNat]? none fun d12=>
 bif decide (0≤s36) then
 optC s2[s36.toNat]? none fun d13=>
 optC (ZgJ ((b0,b0_1,b0_2,b0_3),s1,s36,d13,s3,())) none fun d14=>
 bif decide (0≤d12.2.2.2.2.2.2.2.1) then
 optC s2[Int.toNat d12.2.2.2.2.2.2.2.1]? none fun d15=>
 optC (Zj3 (d14.1,d15,())) none fun d16=>
 bif !d16 then some (Sum.inr (Sum.inr false))
 else
 bif decide (0≤d12.2.2.2.2.2.2.2.2) then
 optC s2[Int.toNat d12.2.2.2.2.2.2.2.2]? none fun d17=>
 optC (Zj3 (d14.2.1,d17,())) none fun d18=>
 bif !d18 then some (Sum.inr (Sum.inr false)) else some (Sum.inl (s1,s2,s3,s34,s35,IntKind.i64.wrap (s36+1),b0,b0_1,b0_2,b0_3))
 else none
 else none
 else none
 else none
 else some (Sum.inr (Sum.inl PUnit.unit))
def ZkT:YC→Option (YC⊕(Jx⊕Jy)):=fun (a,b,c,d,e,f,g,h,i,j)=>ZbW a b c d e f g h i j
theorem ZGh (x:YC):rdX (cxU Zqv [] 40 1048576) keeps 8 ⟨37,71,keeps 37,0⟩ 0 (bodyX 37 0) 0 ZnU (sT YX (Zlh x)) (sH YX (Zlh x)) (rdO (fun T h=>(rdS YX T h).map ZrZ) (getOr (getE 2 HB ZB7) (getE 1 HC ZB8)))=ZkT x:=by kernel_rfl
def Zcz (x:YC):Option (Jx⊕Jy):=iterO ZkT Zj x
def Zxy:Nat→Tm→Prog (Nat×Tm):=(varP 0 (fun T h=>(rdS YX T h).map ZrZ) Zcz (fun y=>.alt y (altE 2 HB ZhI) (altE 1 HC ZhJ)) (fun _ _=>.fail))
def Zv5:Lpc:=⟨37,0,71,(fun base T=>.norm base (ZnU 0) T (Zxy base)),by kernel_rfl,by kernel_rfl,(loopU Zqv [] 40 1048576 8 (keep:=ZnU) (q:=Zxy) (by kernel_rfl) (Zp (s:=YX) (un:=Zlh) (by rfl) (fun _=>rfl) (ZR (Zi (s:=HB) (un:=ZhI) (by rfl) (fun _=>rfl)) (Zi (s:=HC) (un:=ZhJ) (by rfl) (fun _=>rfl))) (step:=ZkT) ZGh (fun _ _ e=>⟨_,e⟩) (ZQ (Zh 2 HB ZhI) (Zh 1 HC ZhJ)) (ZA.fail _ _)))⟩
def ZiY (a0:U) (a1:Int) (a2:List E) (a3:List En):Option Bool:=
 bif decide (0≤a1) then
 optC a0.2.2.2[a1.toNat]? none fun d6=>
 bif (↑a2.length:Int) !=(↑(List.length d6.2):Int) then some false
 else
 optC (ZpK (a0,a1,())) none fun d7=>
 optC a2[Int.toNat (0:Int)]? none fun d8=>
 optC (Zj3 (d7,d8,())) none fun d9=>
 bif !d9 then some false
 else
 optC (Zcz (a1,a2,a3,d6.2,(↑(List.length d6.2):Int),0,a0)) none fun d10=>
 Sum.elim (fun e11=>some true) (fun e11=>some e11) d10
 else none
theorem ZQd (a0:U) (a1:Int) (a2:List E) (a3:List En):evGX (cxU Zqv [Zv5] 40 1048576) keeps 8 37 ZC6 (.dat .bool) ((a0,a1,a2,a3,()):(U×(Int×((List E)×((List En)×Unit)))))=ZiY a0 a1 a2 a3:=by kernel_rfl
def Zaj (x:(U×(Int×((List E)×((List En)×Unit))))):Option Bool:=ZiY x.1 x.2.1 x.2.2.1 x.2.2.2.1
def Zuw:List AV→Prog AV:=conP true ZC6 (.dat .bool) Zaj
theorem ZE2:Zd Tryz.prog 37 Zuw:=Zc (calU Zqv [Zv5] 40 1048576 8 37) true (by rfl) (by rfl) (fun x r e=>(Zg _ _ _ _ _ _ _).trans ((ZQd x.1 x.2.1 x.2.2.1 x.2.2.2.1).trans e)) (.inl rfl)
end
def ZeJ (s1:Int) (s2:List E) (s3:List En) (b0 b0_1:List Int) (b0_2:Int) (b0_3:List C) (s34:List A) (i:Nat)  (d:A):Option (Unit⊕(Jx⊕Jy)):=
 optC s2[i]? (none) fun d13=>
  optC (ZgJ ((b0,b0_1,b0_2,b0_3),s1,(i:Int),d13,s3,())) (none) fun d14=>
  bif decide (0≤d.2.2.2.2.2.2.2.1) then
  optC s2[Int.toNat d.2.2.2.2.2.2.2.1]? (none) fun d15=>
  optC (Zj3 (d14.1,d15,())) (none) fun d16=>
  bif !d16 then
  some (Sum.inr (Sum.inr false))
 else bif decide (0≤d.2.2.2.2.2.2.2.2) then
  optC s2[Int.toNat d.2.2.2.2.2.2.2.2]? (none) fun d17=>
  optC (Zj3 (d14.2.1,d17,())) (none) fun d18=>
  bif !d18 then
  some (Sum.inr (Sum.inr false))
 else some (Sum.inl ())
 else none
 else none
def Zss (s1:Int) (s2:List E) (s3:List En) (b0 b0_1:List Int) (b0_2:Int) (b0_3:List C) (s34:List A):Option (Jx⊕Jy):=
 some (Sum.inl PUnit.unit)
abbrev ZGI (s1:Int) (s2:List E) (s3:List En) (b0 b0_1:List Int) (b0_2:Int) (b0_3:List C) (s34:List A) (i:Nat) (s:Unit):YC:=(s1,s2,s3,s34,(s34.length:Int),(i:Int),b0,b0_1,b0_2,b0_3)
def ZkB (s1:Int) (s2:List E) (s3:List En) (b0 b0_1:List Int) (b0_2:Int) (b0_3:List C) (s34:List A) (s:Unit):Option (Jx⊕Jy):=Zl (fun i s d=>ZeJ s1 s2 s3 b0 b0_1 b0_2 b0_3 s34 i  d) (fun s=>Zss s1 s2 s3 b0 b0_1 b0_2 b0_3 s34 ) 0 s34 s
theorem ZF6 (s1:Int) (s2:List E) (s3:List En) (b0 b0_1:List Int) (b0_2:Int) (b0_3:List C) (s34:List A) (s:Unit) (hl:s34.length<9223372036854775807):Zcz (s1,s2,s3,s34,(s34.length:Int),0,b0,b0_1,b0_2,b0_3)=ZkB s1 s2 s3 b0 b0_1 b0_2 b0_3 s34 s:=by
 unfold Zcz ZkB
 refine Zk s34 (ZGI s1 s2 s3 b0 b0_1 b0_2 b0_3 s34) _ _ ?_ ?_ s (by unfold Zj;omega)
 ·intro i s d hi hd
  have e1:decide ((i:Int)<(s34.length:Int))=true:=decide_eq_true (by omega)
  have e2:decide (0≤(i:Int))=true:=decide_eq_true (by omega)
  have e3:Int.toNat (i:Int)=i:=Int.toNat_natCast i
  have e4:=Zm hi (Nat.le_of_lt hl)
  show ZbW (s1) (s2) (s3) (s34) ((s34.length:Int)) ((i:Int)) (b0) (b0_1) (b0_2) (b0_3)=upd _ (ZeJ s1 s2 s3 b0 b0_1 b0_2 b0_3 s34 i  d)
  unfold ZbW ZeJ
  simp only [e1,e2,e3,e4,hd,cond_true,cond_false,Zb,Zv,Zy,Zw,ZB,ZC,Zx]
 ·intro s
  have e1:decide ((s34.length:Int)<(s34.length:Int))=false:=decide_eq_false (by omega)
  show ZbW (s1) (s2) (s3) (s34) ((s34.length:Int)) ((s34.length:Int)) (b0) (b0_1) (b0_2) (b0_3)=_
  unfold ZbW Zss
  rw [e1]
  rfl
section
open Go.Proofs Go.Proofs.YtbdcblpjemmipaaGreat
abbrev JM:=(Int×(List E)×(List En)×(List A)×Int×(List Int)×(List Int)×Int×(List C))
abbrev QS:=Unit
abbrev QT:=Bool
def Zay (s1:Int) (s2:List E) (s3:List En) (s9:List A) (s10:Int) (b0 b0_1:List Int) (b0_2:Int) (b0_3:List C):Option ((Int×(List E)×(List En)×(List A)×Int×(List Int)×(List Int)×Int×(List C))⊕(Unit⊕Bool)):=
 bif decide (s10<(↑s9.length:Int)) then
 bif decide (0≤s10) then
 optC s2[s10.toNat]? none fun d11=>
 optC (Zew ((b0,b0_1,b0_2,b0_3),s1,s10,d11,s3,())) none fun d12=>
 bif decide (0≤s10) then
 optC s9[s10.toNat]? none fun d13=>
 bif decide (0≤d13.2.2.2.2.2.2.2.1) then
 optC s2[Int.toNat d13.2.2.2.2.2.2.2.1]? none fun d14=>
 optC (Zal (d12.1,d14,())) none fun d15=>
 bif !d15 then some (Sum.inr (Sum.inr false))
 else
 bif decide (0≤s10) then
 optC s9[s10.toNat]? none fun d16=>
 bif decide (0≤d16.2.2.2.2.2.2.2.2) then
 optC s2[Int.toNat d16.2.2.2.2.2.2.2.2]? none fun d17=>
 optC (Zal (d12.2.1,d17,())) none fun d18=>
 bif !d18 then some (Sum.inr (Sum.inr false)) else some (Sum.inl (s1,s2,s3,s9,IntKind.i64.wrap (s10+1),b0,b0_1,b0_2,b0_3))
 else none
 else none
 else none
 else none
 else none
 else some (Sum.inr (Sum.inl PUnit.unit))
def ZhF:JM→Option (JM⊕(QS⊕QT)):=fun (a,b,c,d,e,f,g,h,i)=>Zay a b c d e f g h i
def Za1 (x:JM):Option (QS⊕QT):=iterO ZhF Zj x
def Zi4 (a0:U) (a1:Int) (a2:List E) (a3:List En):Option Bool:=
 bif decide (0≤a1) then
 optC a0.2.2.2[a1.toNat]? none fun d6=>
 bif (↑a2.length:Int) !=(↑(List.length d6.2):Int) then some false
 else
 optC (ZlN (a0,a1,())) none fun d7=>
 optC a2[Int.toNat (0:Int)]? none fun d8=>
 optC (Zal (d7,d8,())) none fun d9=>
 bif !d9 then some false
 else optC (Za1 (a1,a2,a3,d6.2,0,a0)) none fun d10=>Sum.elim (fun e11=>some true) (fun e11=>some e11) d10
 else none
end
def Zde (s1:Int) (s2:List E) (s3:List En) (b0 b0_1:List Int) (b0_2:Int) (b0_3:List C) (s9:List A) (i:Nat)  (d:A):Option (Unit⊕(QS⊕QT)):=
 optC s2[i]? (none) fun d11=>
  optC (Zew ((b0,b0_1,b0_2,b0_3),s1,(i:Int),d11,s3,())) (none) fun d12=>
  bif decide (0≤d.2.2.2.2.2.2.2.1) then
  optC s2[Int.toNat d.2.2.2.2.2.2.2.1]? (none) fun d14=>
  optC (Zal (d12.1,d14,())) (none) fun d15=>
  bif !d15 then
  some (Sum.inr (Sum.inr false))
 else bif decide (0≤d.2.2.2.2.2.2.2.2) then
  optC s2[Int.toNat d.2.2.2.2.2.2.2.2]? (none) fun d17=>
  optC (Zal (d12.2.1,d17,())) (none) fun d18=>
  bif !d18 then
  some (Sum.inr (Sum.inr false))
 else some (Sum.inl ())
 else none
 else none
def ZpW (s1:Int) (s2:List E) (s3:List En) (b0 b0_1:List Int) (b0_2:Int) (b0_3:List C) (s9:List A):Option (QS⊕QT):=
 some (Sum.inl PUnit.unit)
abbrev ZCS (s1:Int) (s2:List E) (s3:List En) (b0 b0_1:List Int) (b0_2:Int) (b0_3:List C) (s9:List A) (i:Nat) (s:Unit):JM:=(s1,s2,s3,s9,(i:Int),b0,b0_1,b0_2,b0_3)
def ZhC (s1:Int) (s2:List E) (s3:List En) (b0 b0_1:List Int) (b0_2:Int) (b0_3:List C) (s9:List A) (s:Unit):Option (QS⊕QT):=Zl (fun i s d=>Zde s1 s2 s3 b0 b0_1 b0_2 b0_3 s9 i  d) (fun s=>ZpW s1 s2 s3 b0 b0_1 b0_2 b0_3 s9 ) 0 s9 s
theorem ZCM (s1:Int) (s2:List E) (s3:List En) (b0 b0_1:List Int) (b0_2:Int) (b0_3:List C) (s9:List A) (s:Unit) (hl:s9.length<9223372036854775807):Za1 (s1,s2,s3,s9,0,b0,b0_1,b0_2,b0_3)=ZhC s1 s2 s3 b0 b0_1 b0_2 b0_3 s9 s:=by
 unfold Za1 ZhC
 refine Zk s9 (ZCS s1 s2 s3 b0 b0_1 b0_2 b0_3 s9) _ _ ?_ ?_ s (by unfold Zj;omega)
 ·intro i s d hi hd
  have e1:decide ((i:Int)<(s9.length:Int))=true:=decide_eq_true (by omega)
  have e2:decide (0≤(i:Int))=true:=decide_eq_true (by omega)
  have e3:Int.toNat (i:Int)=i:=Int.toNat_natCast i
  have e4:=Zm hi (Nat.le_of_lt hl)
  show Zay (s1) (s2) (s3) (s9) ((i:Int)) (b0) (b0_1) (b0_2) (b0_3)=upd _ (Zde s1 s2 s3 b0 b0_1 b0_2 b0_3 s9 i  d)
  unfold Zay Zde
  simp only [e1,e2,e3,e4,hd,cond_true,cond_false,Zb,Zv,Zy,Zw,ZB,ZC,Zx]
 ·intro s
  have e1:decide ((s9.length:Int)<(s9.length:Int))=false:=decide_eq_false (by omega)
  show Zay (s1) (s2) (s3) (s9) ((s9.length:Int)) (b0) (b0_1) (b0_2) (b0_3)=_
  unfold Zay ZpW
  rw [e1]
  rfl
section
open Go.Proofs
def rowsB (a b:List I):Bool:=allIx (fun i x=>leqB x (rowAt b i)) 0 a
theorem ZKr (a b:List I) (ha:a.length≤1000):Zqg a b=some (rowsB a b):=by
 unfold Zqg
 rw [ZEq b a () (by omega)]
 unfold Zjd
 rw [ZbT (p:=fun i x=>leqB x (rowAt b i)) (o:=.inr false) a 0 fun j d hd=>?_]
 ·unfold rowsB
  cases allIx (fun i x=>leqB x (rowAt b i)) 0 a<;>rfl
 ·unfold ZdV
  simp only [Zhp,ZNJ,Zb,Q0,Zj7]
  cases leqB d (rowAt b (0+j))<;>rfl
theorem ZUj (a b:List I) (ha:a.length≤1000):Zi0 a b=some (rowsB a b):=by
 unfold Zi0
 rw [Zta b a () (by omega)]
 unfold Ze0
 rw [ZbT (p:=fun i x=>leqB x (rowAt b i)) (o:=.inr false) a 0 fun j d hd=>?_]
 ·unfold rowsB
  cases allIx (fun i x=>leqB x (rowAt b i)) 0 a<;>rfl
 ·unfold ZbN
  simp only [Zam,ZCH,Zb,Hq,Zkz]
  cases leqB d (rowAt b (0+j))<;>rfl
theorem ZNZ {a b:List I} (hl:a.length=b.length):rowsB a b=true↔leR a b:=by
 unfold rowsB
 rw [ZvJ]
 constructor
 ·intro h
  refine ⟨hl,fun i x y hx hy=>?_⟩
  have:=h i x hx
  rwa [Nat.zero_add,ZEL hy] at this
 ·intro h j d hd
  have hj:j<b.length:=by rw [← hl];exact (List.getElem?_eq_some_iff.1 hd).1
  rw [Nat.zero_add,ZEL (List.getElem?_eq_getElem hj)]
  exact h.2 j d _ hd (List.getElem?_eq_getElem hj)
theorem ZLx {a b:Int} (ha:okB a) (hb:okB b):(andI a b==a)=true↔subB a b:=by
 rw [beq_iff_eq]
 refine ⟨fun h=>?_,ZWi ha hb⟩
 have:=Z0T ha hb
 rwa [h] at this
theorem ZVq {a b:Int} (ha:okB a) (hb:okB b):(IntKind.i64.wrap ((BitVec.ofInt IntKind.i64.bits a &&& ~~~BitVec.ofInt IntKind.i64.bits b).toNat:Int)==0)=true↔subB a b:=by
 refine ⟨fun h=>?_,ZLa ha hb⟩
 unfold okB at *
 obtain ⟨r,h1,h2,h3⟩:=ZNk (a:=a.toNat) (b:=b.toNat) (by omega) (by omega)
 rw [show ((a.toNat:Nat):Int)=a by omega,show ((b.toNat:Nat):Int)=b by omega] at h1
 rw [h1,beq_iff_eq] at h
 have hr:r=0:=by omega
 intro i q
 have:=h3 i
 rw [hr,Nat.zero_testBit,q,Bool.true_and] at this
 simpa using this.symm
def leEB (x y:E):Bool:=bif !x.1 then true else bif y.1 then rowsB x.2.1 y.2.1&&(rowsB x.2.2.1 y.2.2.1&&(rowsB x.2.2.2.1 y.2.2.2.1&&(andI y.2.2.2.2.1 x.2.2.2.2.1==y.2.2.2.2.1&&andI x.2.2.2.2.2 y.2.2.2.2.2==x.2.2.2.2.2))) else false
section
variable {u:U} {t:Int} {x y:E}
theorem ZKo (hu:unitOK u) (hx:x.1=true→envOK u t x):ZBm x y=some (leEB x y):=by
 unfold ZBm leEB
 cases x1:x.1
 ·rfl
 have s:=ZrW hu (hx x1)
 cases y1:y.1
 ·rfl
 simp only [Bool.not_true,cond_false,cond_true,ZlM,ZKr _ _ s.1,ZKr _ _ s.2.1,ZKr _ _ s.2.2,Zb]
 unfold andI
 cases rowsB x.2.1 y.2.1<;>cases rowsB x.2.2.1 y.2.2.1<;>cases rowsB x.2.2.2.1 y.2.2.2.1<;>(try rfl)
 simp only [cond_true,Bool.true_and]
 cases (IntKind.i64.wrap (((BitVec.ofInt IntKind.i64.bits y.2.2.2.2.1 &&& BitVec.ofInt IntKind.i64.bits x.2.2.2.2.1).toNat:Nat):Int)==y.2.2.2.2.1)<;>rfl
theorem Zs1 (hu:unitOK u) (hx:x.1=true→envOK u t x) (hy:y.1=true→envOK u t y):Zl2 x y=some (leEB x y):=by
 unfold Zl2 leEB
 cases x1:x.1
 ·rfl
 have ox:=hx x1
 have s:=ZrW hu ox
 cases y1:y.1
 ·rfl
 have oy:=hy y1
 have e1:(IntKind.i64.wrap ((BitVec.ofInt IntKind.i64.bits y.2.2.2.2.1 &&& ~~~BitVec.ofInt IntKind.i64.bits x.2.2.2.2.1).toNat:Int)==0)=(andI y.2.2.2.2.1 x.2.2.2.2.1==y.2.2.2.2.1):=by
  rw [Bool.eq_iff_iff,ZVq oy.must ox.must,ZLx oy.must ox.must]
 have e2:(IntKind.i64.wrap ((BitVec.ofInt IntKind.i64.bits x.2.2.2.2.2 &&& ~~~BitVec.ofInt IntKind.i64.bits y.2.2.2.2.2).toNat:Int)==0)=(andI x.2.2.2.2.2 y.2.2.2.2.2==x.2.2.2.2.2):=by
  rw [Bool.eq_iff_iff,ZVq ox.may oy.may,ZLx ox.may oy.may]
 simp only [Bool.not_true,cond_false,cond_true,ZiI,ZUj _ _ s.1,ZUj _ _ s.2.1,ZUj _ _ s.2.2,Zb,e1,e2]
 cases rowsB x.2.1 y.2.1<;>cases rowsB x.2.2.1 y.2.2.1<;>cases rowsB x.2.2.2.1 y.2.2.2.1<;>(try rfl)
 simp only [cond_true,Bool.true_and]
 cases (andI y.2.2.2.2.1 x.2.2.2.2.1==y.2.2.2.2.1)<;>rfl
theorem ZLm (hx:x.1=true→envOK u t x) (hy:y.1=true→envOK u t y) (h:leO x y):leEB x y=true:=by
 unfold leEB
 cases x1:x.1
 ·rfl
 have k:=h x1
 have ox:=hx x1
 have oy:=hy k.on
 obtain ⟨l1,l2,l3⟩:=ZPR ox oy
 rw [k.on,(ZNZ l1).2 k.v,(ZNZ l2).2 k.g,(ZNZ l3).2 k.a,(ZLx oy.must ox.must).2 k.must,(ZLx ox.may oy.may).2 k.may]
 rfl
end
def ZyM (u:U) (t:Int) (l:List En) (c:C) (es:List E):Bool:=
 es.length==c.2.length&&(leEB (Zfq u c) ((es[0]?).getD offE)&&allIx (fun i d=>leEB (outV u t i ((es[i]?).getD offE) l).1 ((es[d.2.2.2.2.2.2.2.1.toNat]?).getD offE)&&leEB (outV u t i ((es[i]?).getD offE) l).2.1 ((es[d.2.2.2.2.2.2.2.2.toNat]?).getD offE)) 0 c.2)
section
variable {u:U} {t:Int} {l:List En} {c:C}
theorem out_eq' (hu:unitOK u) (ht:0≤t) (hl:tabOK l) (hn:l.length≤1000) (hc:u.2.2.2[t.toNat]? = some c) {e:E} (he:e.1=true→envOK u t e) {i:Nat} (hi:i<c.2.length) :
  Za7 u t i e l=some (outV u t i e l)∧Zkw u t i e l=some (outV u t i e l)∧outOK u t i e (outV u t i e l):=by
 obtain ⟨o,h1,h2,h3,h4⟩:=Z0U hu ht hl hn he (n:=(i:Int)) (by omega) hc (by omega)
 have:outV u t i e l=o:=by unfold outV;rw [h1];rfl
 rw [this]
 exact ⟨h1,h2,h3⟩
theorem ZNI (hu:unitOK u) (ht:0≤t) (hl:tabOK l) (hn:l.length≤1000) (hc:u.2.2.2[t.toNat]? = some c) {es:List E} (hes:∀ x∈es,x.1=true→envOK u t x) :
  ZiY u t es l=some (ZyM u t l c es)∧Zi4 u t es l=some (ZyM u t l c es):=by
 have cl:=(hu.ts c (List.mem_of_getElem? hc)).n
 have e0:decide (0≤t)=true:=decide_eq_true ht
 have f1:=ZMF u t hu ht hc
 have f2:=ZHT u t hu ht hc
 have fo:=ZNu u t hu hc
 unfold ZiY Zi4 ZyM
 simp only [e0,cond_true,hc,Zb]
 by_cases q:es.length=c.2.length
 case neg=>
  have q1:((es.length:Int) !=(c.2.length:Int))=true:=by simp;omega
  have q2:(es.length==c.2.length)=false:=by simpa using q
  simp only [q1,q2,cond_true,Bool.false_and,and_self]
 have q1:((es.length:Int) !=(c.2.length:Int))=false:=by simp;omega
 have q2:(es.length==c.2.length)=true:=by simpa using q
 have g0:es[0]? = some (es[0]'(by omega)):=List.getElem?_eq_getElem _
 have o0:=hes _ (List.getElem_mem (h:=(by omega:0<es.length)))
 have g0':es[Int.toNat (0:Int)]? = some (es[0]'(by omega)):=g0
 have l1:=ZKo (y:=es[0]'(by omega)) hu (fun _=>fo)
 have l2:=Zs1 hu (fun _=>fo) o0
 simp only [q1,q2,cond_false,Bool.true_and,ZpK,f1,ZlN,f2,Zb,g0,g0',Option.getD_some,Zj3,l1,Zal,l2]
 cases leEB (Zfq u c) (es[0]'(by omega))
 ·exact ⟨rfl,rfl⟩
 simp only [Bool.not_true,cond_false,Bool.true_and]
 have r1:=ZF6 t es l u.1 u.2.1 u.2.2.1 u.2.2.2 c.2 () (by omega)
 have r2:=ZCM t es l u.1 u.2.1 u.2.2.1 u.2.2.2 c.2 () (by omega)
 have r1:Zcz (t,es,l,c.2,(c.2.length:Int),0,u)=_:=r1
 have r2:Za1 (t,es,l,c.2,0,u)=_:=r2
 have look:∀ {k:Int},0≤k∧k<(c.2.length:Int)→∃ x,es[k.toNat]? = some x∧(x.1=true→envOK u t x):=fun {k} hk=>
  ⟨es[k.toNat]'(by omega),List.getElem?_eq_getElem _,hes _ (List.getElem_mem _)⟩
 unfold ZkB at r1
 unfold ZhC at r2
 rw [ZbT (p:=fun i d=>leEB (outV u t i ((es[i]?).getD offE) l).1 ((es[d.2.2.2.2.2.2.2.1.toNat]?).getD offE)&&leEB (outV u t i ((es[i]?).getD offE) l).2.1 ((es[d.2.2.2.2.2.2.2.2.toNat]?).getD offE)) (o:=.inr false) c.2 0 fun j d hd=>?_] at r1
 ·rw [ZbT (p:=fun i d=>leEB (outV u t i ((es[i]?).getD offE) l).1 ((es[d.2.2.2.2.2.2.2.1.toNat]?).getD offE)&&leEB (outV u t i ((es[i]?).getD offE) l).2.1 ((es[d.2.2.2.2.2.2.2.2.toNat]?).getD offE)) (o:=.inr false) c.2 0 fun j d hd=>?_] at r2
  ·rw [r1,r2]
   cases allIx (fun i d=>leEB (outV u t i ((es[i]?).getD offE) l).1 ((es[d.2.2.2.2.2.2.2.1.toNat]?).getD offE)&&leEB (outV u t i ((es[i]?).getD offE) l).2.1 ((es[d.2.2.2.2.2.2.2.2.toNat]?).getD offE)) 0 c.2<;>exact ⟨rfl,rfl⟩
  ·rw [Nat.zero_add]
   have hj:=(List.getElem?_eq_some_iff.1 hd).1
   have ha:=(hu.ts c (List.mem_of_getElem? hc)).a d (List.mem_of_getElem? hd)
   obtain ⟨e,ge,oe⟩:=look (k:=(j:Int)) (by omega)
   rw [Int.toNat_natCast] at ge
   obtain ⟨a,ga,oa⟩:=look ha.nx
   obtain ⟨b,gb,ob⟩:=look ha.el
   obtain ⟨h1,h2,h3⟩:=out_eq' hu ht hl hn hc oe hj
   have m1:=Zs1 hu h3.nx oa
   have m2:=Zs1 hu h3.el ob
   have d1:decide (0≤d.2.2.2.2.2.2.2.1)=true:=decide_eq_true ha.nx.1
   have d2:decide (0≤d.2.2.2.2.2.2.2.2)=true:=decide_eq_true ha.el.1
   unfold Zde
   simp only [ge,hd,ga,gb,Zb,Option.getD_some,Zew,h2,d1,d2,cond_true,Zal,m1,m2]
   cases leEB (outV u t j e l).1 a<;>cases leEB (outV u t j e l).2.1 b<;>rfl
 ·rw [Nat.zero_add]
  have hj:=(List.getElem?_eq_some_iff.1 hd).1
  have ha:=(hu.ts c (List.mem_of_getElem? hc)).a d (List.mem_of_getElem? hd)
  obtain ⟨e,ge,oe⟩:=look (k:=(j:Int)) (by omega)
  rw [Int.toNat_natCast] at ge
  obtain ⟨a,ga,oa⟩:=look ha.nx
  obtain ⟨b,gb,ob⟩:=look ha.el
  obtain ⟨h1,h2,h3⟩:=out_eq' hu ht hl hn hc oe hj
  have m1:=ZKo (y:=a) hu h3.nx
  have m2:=ZKo (y:=b) hu h3.el
  have d1:decide (0≤d.2.2.2.2.2.2.2.1)=true:=decide_eq_true ha.nx.1
  have d2:decide (0≤d.2.2.2.2.2.2.2.2)=true:=decide_eq_true ha.el.1
  unfold ZeJ
  simp only [ge,hd,ga,gb,Zb,Option.getD_some,ZgJ,h1,d1,d2,cond_true,Zj3,m1,m2]
  cases leEB (outV u t j e l).1 a<;>cases leEB (outV u t j e l).2.1 b<;>rfl
theorem ZYt (hu:unitOK u) (ht:0≤t) (hl:tabOK l) (hn:l.length≤1000) (hc:u.2.2.2[t.toNat]? = some c) {es:List E} {ns:List Int} (v:Inv u t c.2.length es ns) (h0:upL (es0 u c) es) (h:∀ (j:Nat) (a:A),c.2[j]? = some a→ZaM u t l es j a):ZyM u t l c es=true:=by
 have cl:=(hu.ts c (List.mem_of_getElem? hc)).n
 have q2:(es.length==c.2.length)=true:=by simpa using v.le
 have f0:(es0 u c)[0]? = some (Zfq u c):=by
  unfold es0
  rw [List.getElem?_set_self (by rw [List.length_replicate];omega)]
 obtain ⟨y,gy,ly⟩:=h0 0 _ f0
 have oy:=(v.ok y (List.mem_of_getElem? gy)).env
 unfold ZyM
 rw [q2,gy,Option.getD_some,ZLm (fun _=>ZNu u t hu hc) oy ly,Bool.true_and,Bool.true_and,ZvJ]
 intro j d hd
 rw [Nat.zero_add]
 obtain ⟨a,b,ga,gb,la,lb⟩:=h j d hd
 have hj:=(List.getElem?_eq_some_iff.1 hd).1
 have hje:j<es.length:=by rw [v.le];exact hj
 have ge:es[j]? = some es[j]:=List.getElem?_eq_getElem hje
 obtain ⟨_,_,o3,_⟩:=Zog hu ht hl hn hc (v.ok _ (List.getElem_mem hje)) hj
 rw [ge,Option.getD_some] at la lb
 simp only [ge,Option.getD_some,ga,gb,ZLm o3.nx (v.ok a (List.mem_of_getElem? ga)).env la,ZLm o3.el (v.ok b (List.mem_of_getElem? gb)).env lb,Bool.true_and]
end
end
section
open Go.Proofs Go.Proofs.YtbdcblpjemmipaaGreat
def ZtI:List Sh:=[.dat tU,.dat (.int .i64),.dat (.sl tEn)]
def ZwH:List Con:=[⟨22,Zd0,Zhl⟩,⟨24,Zhu,Zl7⟩,⟨37,Zuw,ZE2⟩,⟨26,Zd1,Zhm⟩]
def Ziu (a0:U) (a1:Int) (a2:List En):Option Bool:=
 optC (Jt (a0,a1,a2,())) none fun d4=>
 bif !d4 then some true
 else
 optC (ZaX (a0,a1,a2,())) none fun d5=>
 bif decide (d5.2.2.2.2.1≥1) then
 bif decide (d5.2.2.2.2.1≤100) then
 bif d5.2.2.2.2.2 then
 bif !d5.2.2.2.2.2 then optC (ZO ()) none fun d6=>some d6
 else
 optC (Zaj (a0,a1,d5.1,a2,())) none fun d6=>
 bif d6 then optC (ZO ()) none fun d7=>some d7 else some false
 else
 bif d5.2.2.2.2.1==100 then
 bif !d5.2.2.2.2.2 then optC (ZO ()) none fun d6=>some d6
 else
 optC (Zaj (a0,a1,d5.1,a2,())) none fun d6=>
 bif d6 then optC (ZO ()) none fun d7=>some d7 else some false
 else some false
 else some false
 else some false
theorem ZIC (a0:U) (a1:Int) (a2:List En):evGX (cxU ZwH [] 40 1048576) keeps 8 12 ZtI (.dat .bool) ((a0,a1,a2,()):(U×(Int×((List En)×Unit))))=Ziu a0 a1 a2:=by kernel_rfl
def ZLA (x:(U×(Int×((List En)×Unit)))):Option Bool:=Ziu x.1 x.2.1 x.2.2.1
def ZIg:List AV→Prog AV:=conP true ZtI (.dat .bool) ZLA
theorem ZYf:Zd Tryz.prog 12 ZIg:=Zc (calU ZwH [] 40 1048576 8 12) true (by rfl) (by rfl) (fun x r e=>(Zg _ _ _ _ _ _ _).trans ((ZIC x.1 x.2.1 x.2.2.1).trans e)) (.inl rfl)
end
section
open Go.Proofs
section
variable {u:U} {t:Int} {l:List En} {c:C}
theorem ZWs (hu:unitOK u) (ht:0≤t) (hl:tabOK l) (hn:l.length≤1000) (hc:u.2.2.2[t.toNat]? = some c) (st:List Int) :
  Inv u t c.2.length (endV u t l st c).1 (endV u t l st c).2.1∧upL (es0 u c) (endV u t l st c).1∧1≤(endV u t l st c).2.2.1∧(endV u t l st c).2.2.1≤100∧((endV u t l st c).2.2.2=true∨(endV u t l st c).2.2.1=100)∧((endV u t l st c).2.2.2=true→ZyM u t l c (endV u t l st c).1=true):=by
 obtain ⟨h1,h2,h3,h4,h5,h6,h7⟩:=ZW8 (st:=st) hu ht hl hn hc 100 (es0 u c) (ns0 c) 0 false (ZXI hu hc)
 refine ⟨h1,h2,by have:=h6 rfl (by decide);show (1:Int)≤(runV u t l st c 100 (es0 u c) (ns0 c) 0 false).2.2.1;omega,by show (runV u t l st c 100 (es0 u c) (ns0 c) 0 false).2.2.1≤100;omega,?_,fun k=>ZYt hu ht hl hn hc h1 h2 (h7 rfl k)⟩
 rcases h5 with k | k
 ·exact .inl k
 ·exact .inr (by show (runV u t l st c 100 (es0 u c) (ns0 c) 0 false).2.2.1=100;omega)
end
theorem Z4x (u:U) (t:Int) (l:List En) (hs:sizeU u) (hl:l.length<9223372036854775807):Ziu u t l=some true:=by
 unfold Ziu
 obtain ⟨b,h1,h2⟩:=Zed u t l hs hl
 simp only [Jt,h1,Zb]
 cases b
 ·rfl
 obtain ⟨hu,ht,hn,hk⟩:=h2 rfl
 obtain ⟨c,hc⟩:=ZLc ht
 obtain ⟨r1,r2,v,g⟩:=ZuY hu ht.1 hk (by omega) hc
 obtain ⟨e1,e2,e3,e4,e5,e6⟩:=ZWs hu ht.1 hk (by omega) hc (ZJ u)
 have k1:=(ZNI hu ht.1 hk (by omega) hc (fun x hx=>(e1.ok x hx).env)).1
 have d1:decide ((resV u t l (ZJ u) c).2.2.2.2.1≥1)=true:=decide_eq_true e3
 have d2:decide ((resV u t l (ZJ u) c).2.2.2.2.1≤100)=true:=decide_eq_true e4
 have k1':ZiY u t (resV u t l (ZJ u) c).1 l=_:=k1
 simp only [Bool.not_true,cond_false,ZaX,r1,Zb,d1,d2,cond_true,ZO,ZyT,Zaj,k1']
 have e5:(resV u t l (ZJ u) c).2.2.2.2.2=true∨(resV u t l (ZJ u) c).2.2.2.2.1=100:=e5
 have e6:(resV u t l (ZJ u) c).2.2.2.2.2=true→_:=e6
 cases hd:(resV u t l (ZJ u) c).2.2.2.2.2
 ·rcases e5 with k | k
  ·rw [hd] at k;cases k
  ·rw [k];rfl
 ·rw [e6 hd];rfl
end
section
open Go.Proofs Go.Proofs.YtbdcblpjemmipaaGreat
abbrev Zea:Type:=(Int×Int×Int×(List E)×(List En)×(List Ac)×(List Al)×Int×Bool)
def ZvM:List Sh:=[.dat tU,.dat (.int .i64),.dat (.sl tEn)]
def Zi7:Nat→List Nat:=fun c=>bif c.beq 0 then [1,7,8,9] else [1,6,7]
def Zi8:Nat→List Nat:=fun c=>bif c.beq 0 then [1,7,8,11] else [6]
def Zcl:List Con:=[⟨22,Zd0,Zhl⟩,⟨24,Zhu,Zl7⟩,⟨30,Zzn,ZKP⟩,⟨26,Zd1,Zhm⟩]
def Jj:StS:=⟨[(1,.int .i64),(7,.ptr 0 0),(8,.int .i64),(9,.int .i64)],[(0,.box [.sl tE,.sl tEn,.sl tAc,.sl tAl,.int .i64,.bool])],1⟩
def J2:StS:=⟨[(1,.int .i64),(6,.undef),(7,.ptr 0 0)],[(0,.box [.sl tE,.sl tEn,.sl tAc,.sl tAl,.int .i64,.bool])],1⟩
def J3:StS:=⟨[(1,.int .i64),(6,.bool),(7,.ptr 0 0)],[(0,.box [.sl tE,.sl tEn,.sl tAc,.sl tAl,.int .i64,.bool])],1⟩
abbrev Q8:=Zea
def ZoV:StD Jj→Q8:=fun ((a,_,b,c,_),((d,e,f,g,h,i,_),_))=>(a,b,c,d,e,f,g,h,i)
def Zgr:Q8→StD Jj:=fun (a,b,c,d,e,f,g,h,i)=>((a,(),b,c,()),((d,e,f,g,h,i,()),()))
abbrev Qx:=(Int×(List E)×(List En)×(List Ac)×(List Al)×Int×Bool)
def Zx9:StD J2→Qx:=fun ((a,_,_,_),((b,c,d,e,f,g,_),_))=>(a,b,c,d,e,f,g)
def Ze5:Qx→StD J2:=fun (a,b,c,d,e,f,g)=>((a,(),(),()),((b,c,d,e,f,g,()),()))
abbrev Qy:=(Int×Bool×(List E)×(List En)×(List Ac)×(List Al)×Int×Bool)
def Zya:StD J3→Qy:=fun ((a,b,_,_),((c,d,e,f,g,h,_),_))=>(a,b,c,d,e,f,g,h)
def Ze6:Qy→StD J3:=fun (a,b,c,d,e,f,g,h)=>((a,b,(),()),((c,d,e,f,g,h,()),()))
def Wx (s1 s8 s9:Int) (b0:List E) (b0_1:List En) (b0_2:List Ac) (b0_3:List Al) (b0_4:Int) (b0_5:Bool):Option (Zea⊕((Int×(List E)×(List En)×(List Ac)×(List Al)×Int×Bool)⊕(Int×Bool×(List E)×(List En)×(List Ac)×(List Al)×Int×Bool))):=
 bif decide (s9<(↑b0_2.length:Int)) then
 bif decide (0≤s9) then
 optC b0_2[s9.toNat]? none fun d12=>
 bif d12.1 !=s1 then some (Sum.inr (Sum.inr (s1,false,b0,b0_1,b0_2,b0_3,b0_4,b0_5)))
 else
 bif decide (d12.2.1<s8) then some (Sum.inr (Sum.inr (s1,false,b0,b0_1,b0_2,b0_3,b0_4,b0_5)))
 else
 bif decide (d12.2.1≥(↑b0.length:Int)) then some (Sum.inr (Sum.inr (s1,false,b0,b0_1,b0_2,b0_3,b0_4,b0_5)))
 else
 bif decide (0≤d12.2.1) then
 optC b0[Int.toNat d12.2.1]? none fun d13=>
 bif !d13.1 then some (Sum.inr (Sum.inr (s1,false,b0,b0_1,b0_2,b0_3,b0_4,b0_5)))
 else
 bif decide (0≤d12.2.1) then
 optC b0[Int.toNat d12.2.1]? none fun d14=>
 bif d12.2.2.2.2.2 !=d14.2.2.2.2.1 then some (Sum.inr (Sum.inr (s1,false,b0,b0_1,b0_2,b0_3,b0_4,b0_5)))
 else some (Sum.inl (s1,d12.2.1,IntKind.i64.wrap (s9+1),b0,b0_1,b0_2,b0_3,b0_4,b0_5))
 else none
 else none
 else none
 else some (Sum.inr (Sum.inl (s1,b0,b0_1,b0_2,b0_3,b0_4,b0_5)))
def Zgg:Q8→Option (Q8⊕(Qx⊕Qy)):=fun (a,b,c,d,e,f,g,h,i)=>Wx a b c d e f g h i
theorem ZAP (x:Q8):rdX (cxU Zcl [] 40 1048576) keeps 8 ⟨7,146,keeps 7,0⟩ 0 (bodyX 7 0) 0 Zi7 (sT Jj (Zgr x)) (sH Jj (Zgr x)) (rdO (fun T h=>(rdS Jj T h).map ZoV) (getOr (getE 2 J2 Zx9) (getE 1 J3 Zya)))=Zgg x:=by kernel_rfl
def Zan (x:Q8):Option (Qx⊕Qy):=iterO Zgg Zj x
def Zs3:Nat→Tm→Prog (Nat×Tm):=(varP 0 (fun T h=>(rdS Jj T h).map ZoV) Zan (fun y=>.alt y (altE 2 J2 Ze5) (altE 1 J3 Ze6)) (fun _ _=>.fail))
def Zd6:Lpc:=⟨7,0,146,(fun base T=>.norm base (Zi7 0) T (Zs3 base)),by kernel_rfl,by kernel_rfl,(loopU Zcl [] 40 1048576 8 (keep:=Zi7) (q:=Zs3) (by kernel_rfl) (Zp (s:=Jj) (un:=Zgr) (by rfl) (fun _=>rfl) (ZR (Zi (s:=J2) (un:=Ze5) (by rfl) (fun _=>rfl)) (Zi (s:=J3) (un:=Ze6) (by rfl) (fun _=>rfl))) (step:=Zgg) ZAP (fun _ _ e=>⟨_,e⟩) (ZQ (Zh 2 J2 Ze5) (Zh 1 J3 Ze6)) (ZA.fail _ _)))⟩
abbrev ZDJ:=cxU Zcl [Zd6] 40 1048576
def Jk:StS:=⟨[(1,.int .i64),(7,.ptr 0 0),(8,.int .i64),(11,.int .i64)],[(0,.box [.sl tE,.sl tEn,.sl tAc,.sl tAl,.int .i64,.bool])],1⟩
def J4:StS:=⟨[(6,.undef)],[],0⟩
def J5:StS:=⟨[(6,.bool)],[],0⟩
abbrev Q9:=Zea
def ZoW:StD Jk→Q9:=fun ((a,_,b,c,_),((d,e,f,g,h,i,_),_))=>(a,b,c,d,e,f,g,h,i)
def Zgs:Q9→StD Jk:=fun (a,b,c,d,e,f,g,h,i)=>((a,(),b,c,()),((d,e,f,g,h,i,()),()))
abbrev Qz:=Unit
def Zyb (d:StD J4):Qz:=()
def Ze7 (x:Qz):StD J4:=(((),()),())
abbrev QA:=Bool
def Zyc (d:StD J5):QA:=(d.1.1)
def Ze8 (x:QA):StD J5:=((x,()),())
def Wy (s1 s8 s11:Int) (b0:List E) (b0_1:List En) (b0_2:List Ac) (b0_3:List Al) (b0_4:Int) (b0_5:Bool):Option (Zea⊕(Unit⊕Bool)):=
 bif decide (s11<(↑b0_3.length:Int)) then
 bif decide (0≤s11) then
 optC b0_3[s11.toNat]? none fun d12=>
 bif d12.1 !=1 then some (Sum.inr (Sum.inr false))
 else
 bif d12.2.1 !=s1 then some (Sum.inr (Sum.inr false))
 else
 bif decide (d12.2.2.1<s8) then some (Sum.inr (Sum.inr false))
 else
 bif decide (d12.2.2.1≥(↑b0.length:Int)) then some (Sum.inr (Sum.inr false))
 else
 bif decide (0≤d12.2.2.1) then
 optC b0[Int.toNat d12.2.2.1]? none fun d13=>
 bif !d13.1 then some (Sum.inr (Sum.inr false))
 else
 bif d12.2.2.2.1==0 then some (Sum.inr (Sum.inr false))
 else some (Sum.inl (s1,d12.2.2.1,IntKind.i64.wrap (s11+1),b0,b0_1,b0_2,b0_3,b0_4,b0_5))
 else none
 else none
 else some (Sum.inr (Sum.inl PUnit.unit))
def Zgh:Q9→Option (Q9⊕(Qz⊕QA)):=fun (a,b,c,d,e,f,g,h,i)=>Wy a b c d e f g h i
theorem ZAQ (x:Q9):rdX ZDJ keeps 8 ⟨7,146,keeps 7,0⟩ 2 (bodyX 7 2) 0 Zi8 (sT Jk (Zgs x)) (sH Jk (Zgs x)) (rdO (fun T h=>(rdS Jk T h).map ZoW) (getOr (getE 4 J4 Zyb) (getE 1 J5 Zyc)))=Zgh x:=by kernel_rfl
def Zao (x:Q9):Option (Qz⊕QA):=iterO Zgh Zj x
def Zs4:Nat→Tm→Prog (Nat×Tm):=(varP 0 (fun T h=>(rdS Jk T h).map ZoW) Zao (fun y=>.alt y (altE 4 J4 Ze7) (altE 1 J5 Ze8)) (fun _ _=>.fail))
def Zrg:Lpc:=⟨7,2,146,(fun base T=>.norm base (Zi8 0) T (Zs4 base)),by kernel_rfl,by kernel_rfl,(loopU Zcl [Zd6] 40 1048576 8 (keep:=Zi8) (q:=Zs4) (by kernel_rfl) (Zp (s:=Jk) (un:=Zgs) (by rfl) (fun _=>rfl) (ZR (Zi (s:=J4) (un:=Ze7) (by rfl) (fun _=>rfl)) (Zi (s:=J5) (un:=Ze8) (by rfl) (fun _=>rfl))) (step:=Zgh) ZAQ (fun _ _ e=>⟨_,e⟩) (ZQ (Zh 4 J4 Ze7) (Zh 1 J5 Ze8)) (ZA.fail _ _)))⟩
def Zkv (a0:U) (a1:Int) (a2:List En):Option Bool:=
 optC (Jt (a0,a1,a2,())) none fun d6=>
 bif !d6 then some true
 else
 optC (ZaX (a0,a1,a2,())) none fun d7=>
 bif decide (0≤a1) then
 optC a0.2.2.2[a1.toNat]? none fun d8=>
 bif (↑(List.length d7.1):Int) !=(↑(List.length d8.2):Int) then some false
 else
 optC (ZrI (d7.2.1,())) none fun d9=>
 bif !d9 then some false
 else
 optC (Zan (a1,0,0,d7)) none fun d10=>
 Sum.elim
 (fun e11=>
 optC (Zao (e11.1,0,0,e11.2)) none fun d12=>
 Sum.elim (fun e13=>optC (ZO ()) none fun d14=>some d14) (fun e13=>some e13) d12)
 (fun e11=>some e11.2.1) d10
 else none
theorem ZKB (a0:U) (a1:Int) (a2:List En):evGX (cxU Zcl [Zd6,Zrg] 40 1048576) keeps 8 7 ZvM (.dat .bool) ((a0,a1,a2,()):(U×(Int×((List En)×Unit))))=Zkv a0 a1 a2:=by kernel_rfl
def ZNh (x:(U×(Int×((List En)×Unit)))):Option Bool:=Zkv x.1 x.2.1 x.2.2.1
def ZJO:List AV→Prog AV:=conP true ZvM (.dat .bool) ZNh
theorem ZZl:Zd Tryz.prog 7 ZJO:=Zc (calU Zcl [Zd6,Zrg] 40 1048576 8 7) true (by rfl) (by rfl) (fun x r e=>(Zg _ _ _ _ _ _ _).trans ((ZKB x.1 x.2.1 x.2.2.1).trans e)) (.inl rfl)
end
def Zcu (s1:Int) (b0:List E) (b0_1:List En) (b0_3:List Al) (b0_4:Int) (b0_5:Bool) (b0_2:List Ac) (i:Nat) (s8:Int) (d:Ac):Option (Int⊕(Qx⊕Qy)):=
 bif d.1 !=s1 then
  some (Sum.inr (Sum.inr (s1,false,b0,b0_1,b0_2,b0_3,b0_4,b0_5)))
 else bif decide (d.2.1<s8) then
  some (Sum.inr (Sum.inr (s1,false,b0,b0_1,b0_2,b0_3,b0_4,b0_5)))
 else bif decide (d.2.1≥(↑b0.length:Int)) then
  some (Sum.inr (Sum.inr (s1,false,b0,b0_1,b0_2,b0_3,b0_4,b0_5)))
 else bif decide (0≤d.2.1) then
  optC b0[Int.toNat d.2.1]? (none) fun d13=>
  bif !d13.1 then
  some (Sum.inr (Sum.inr (s1,false,b0,b0_1,b0_2,b0_3,b0_4,b0_5)))
 else bif decide (0≤d.2.1) then
  optC b0[Int.toNat d.2.1]? (none) fun d14=>
  bif d.2.2.2.2.2 !=d14.2.2.2.2.1 then
  some (Sum.inr (Sum.inr (s1,false,b0,b0_1,b0_2,b0_3,b0_4,b0_5)))
 else some (Sum.inl (d.2.1))
 else none
 else none
def Zo1 (s1:Int) (b0:List E) (b0_1:List En) (b0_3:List Al) (b0_4:Int) (b0_5:Bool) (b0_2:List Ac) (s8:Int):Option (Qx⊕Qy):=
 some (Sum.inl (s1,b0,b0_1,b0_2,b0_3,b0_4,b0_5))
abbrev ZAV (s1:Int) (b0:List E) (b0_1:List En) (b0_3:List Al) (b0_4:Int) (b0_5:Bool) (b0_2:List Ac) (i:Nat) (s:Int):Q8:=(s1,s,(i:Int),b0,b0_1,b0_2,b0_3,b0_4,b0_5)
def Zgb (s1:Int) (b0:List E) (b0_1:List En) (b0_3:List Al) (b0_4:Int) (b0_5:Bool) (b0_2:List Ac) (s:Int):Option (Qx⊕Qy):=Zl (fun i s d=>Zcu s1 b0 b0_1 b0_3 b0_4 b0_5 b0_2 i s d) (fun s=>Zo1 s1 b0 b0_1 b0_3 b0_4 b0_5 b0_2 s) 0 b0_2 s
theorem ZAK (s1:Int) (b0:List E) (b0_1:List En) (b0_3:List Al) (b0_4:Int) (b0_5:Bool) (b0_2:List Ac) (s:Int) (hl:b0_2.length<9223372036854775807):Zan (s1,s,0,b0,b0_1,b0_2,b0_3,b0_4,b0_5)=Zgb s1 b0 b0_1 b0_3 b0_4 b0_5 b0_2 s:=by
 unfold Zan Zgb
 refine Zk b0_2 (ZAV s1 b0 b0_1 b0_3 b0_4 b0_5 b0_2) _ _ ?_ ?_ s (by unfold Zj;omega)
 ·intro i s d hi hd
  have e1:decide ((i:Int)<(b0_2.length:Int))=true:=decide_eq_true (by omega)
  have e2:decide (0≤(i:Int))=true:=decide_eq_true (by omega)
  have e3:Int.toNat (i:Int)=i:=Int.toNat_natCast i
  have e4:=Zm hi (Nat.le_of_lt hl)
  show Wx (s1) (s) ((i:Int)) (b0) (b0_1) (b0_2) (b0_3) (b0_4) (b0_5)=upd _ (Zcu s1 b0 b0_1 b0_3 b0_4 b0_5 b0_2 i s d)
  unfold Wx Zcu
  simp only [e1,e2,e3,e4,hd,cond_true,cond_false,Zb,Zv,Zy,Zw,ZB,ZC,Zx]
 ·intro s
  have e1:decide ((b0_2.length:Int)<(b0_2.length:Int))=false:=decide_eq_false (by omega)
  show Wx (s1) (s) ((b0_2.length:Int)) (b0) (b0_1) (b0_2) (b0_3) (b0_4) (b0_5)=_
  unfold Wx Zo1
  rw [e1]
  rfl
def Zcv (s1:Int) (b0:List E) (b0_1:List En) (b0_2:List Ac) (b0_4:Int) (b0_5:Bool) (b0_3:List Al) (i:Nat) (s8:Int) (d:Al):Option (Int⊕(Qz⊕QA)):=
 bif d.1 !=1 then
  some (Sum.inr (Sum.inr false))
 else bif d.2.1 !=s1 then
  some (Sum.inr (Sum.inr false))
 else bif decide (d.2.2.1<s8) then
  some (Sum.inr (Sum.inr false))
 else bif decide (d.2.2.1≥(↑b0.length:Int)) then
  some (Sum.inr (Sum.inr false))
 else bif decide (0≤d.2.2.1) then
  optC b0[Int.toNat d.2.2.1]? (none) fun d13=>
  bif !d13.1 then
  some (Sum.inr (Sum.inr false))
 else bif d.2.2.2.1==0 then
  some (Sum.inr (Sum.inr false))
 else some (Sum.inl (d.2.2.1))
 else none
def Zo2 (s1:Int) (b0:List E) (b0_1:List En) (b0_2:List Ac) (b0_4:Int) (b0_5:Bool) (b0_3:List Al) (s8:Int):Option (Qz⊕QA):=
 some (Sum.inl PUnit.unit)
abbrev ZAW (s1:Int) (b0:List E) (b0_1:List En) (b0_2:List Ac) (b0_4:Int) (b0_5:Bool) (b0_3:List Al) (i:Nat) (s:Int):Q9:=(s1,s,(i:Int),b0,b0_1,b0_2,b0_3,b0_4,b0_5)
def Zgc (s1:Int) (b0:List E) (b0_1:List En) (b0_2:List Ac) (b0_4:Int) (b0_5:Bool) (b0_3:List Al) (s:Int):Option (Qz⊕QA):=Zl (fun i s d=>Zcv s1 b0 b0_1 b0_2 b0_4 b0_5 b0_3 i s d) (fun s=>Zo2 s1 b0 b0_1 b0_2 b0_4 b0_5 b0_3 s) 0 b0_3 s
theorem ZAL (s1:Int) (b0:List E) (b0_1:List En) (b0_2:List Ac) (b0_4:Int) (b0_5:Bool) (b0_3:List Al) (s:Int) (hl:b0_3.length<9223372036854775807):Zao (s1,s,0,b0,b0_1,b0_2,b0_3,b0_4,b0_5)=Zgc s1 b0 b0_1 b0_2 b0_4 b0_5 b0_3 s:=by
 unfold Zao Zgc
 refine Zk b0_3 (ZAW s1 b0 b0_1 b0_2 b0_4 b0_5 b0_3) _ _ ?_ ?_ s (by unfold Zj;omega)
 ·intro i s d hi hd
  have e1:decide ((i:Int)<(b0_3.length:Int))=true:=decide_eq_true (by omega)
  have e2:decide (0≤(i:Int))=true:=decide_eq_true (by omega)
  have e3:Int.toNat (i:Int)=i:=Int.toNat_natCast i
  have e4:=Zm hi (Nat.le_of_lt hl)
  show Wy (s1) (s) ((i:Int)) (b0) (b0_1) (b0_2) (b0_3) (b0_4) (b0_5)=upd _ (Zcv s1 b0 b0_1 b0_2 b0_4 b0_5 b0_3 i s d)
  unfold Wy Zcv
  simp only [e1,e2,e3,e4,hd,cond_true,cond_false,Zb,Zv,Zy,Zw,ZB,ZC,Zx]
 ·intro s
  have e1:decide ((b0_3.length:Int)<(b0_3.length:Int))=false:=decide_eq_false (by omega)
  show Wy (s1) (s) ((b0_3.length:Int)) (b0) (b0_1) (b0_2) (b0_3) (b0_4) (b0_5)=_
  unfold Wy Zo2
  rw [e1]
  rfl
theorem ZQH {α Y:Type} {f:Nat→Int→α→Option (Int⊕Y)} {fin:Int→Option Y} {N:α→Int} {y:Y} (hf:∀ s,fin s=some y):∀ (r:List α) (i:Nat) (s:Int),(∀ j s d,d∈r→s≤N d→f j s d=some (.inl (N d)))→(∀ d∈r,s≤N d)→r.Pairwise (fun a b=>N a≤N b)→Zl f fin i r s=some y
 | [],i,s,h,_,_=>hf s
 | d::r,i,s,h,hs,hp=>by
  rw [List.pairwise_cons] at hp
  rw [Qk (h i s d (by simp) (hs d (by simp)))]
  exact ZQH hf r (i+1) (N d) (fun j s x hx=>h j s x (by simp [hx])) hp.1 hp.2
theorem Z4U (u:U) (t:Int) (l:List En) (hs:sizeU u) (hl:l.length<9223372036854775807):Zkv u t l=some true:=by
 unfold Zkv
 obtain ⟨b,h1,h2⟩:=Zed u t l hs hl
 simp only [Jt,h1,Zb]
 cases b
 ·rfl
 obtain ⟨hu,ht,hn,hk⟩:=h2 rfl
 obtain ⟨c,hc⟩:=ZLc ht
 have cl:=(hu.ts c (List.mem_of_getElem? hc)).n
 obtain ⟨r1,r2,v,g⟩:=ZuY hu ht.1 hk (by omega) hc
 obtain ⟨A,B⟩:=ZRu hu ht.1 hk (by omega) hc v c.2 0 ([],[],[]) rfl (by simp) (ZZu _ t).1 (ZZu _ t).2
 have A:AcInv (endV u t l (ZJ u) c).1 t c.2.length (gatE u t l (ZJ u) c).2.1:=A
 have B:AlInv (endV u t l (ZJ u) c).1 t c.2.length (gatE u t l (ZJ u) c).2.2:=B
 have e0:decide (0≤t)=true:=decide_eq_true ht.1
 have ve:=v.le
 have is:=ZOO (gatE u t l (ZJ u) c).1 (by have:=g.a;omega)
 rw [ZT0 g.k.e g.k.srt] at is
 have ln:(((endV u t l (ZJ u) c).1.length:Int) !=(c.2.length:Int))=false:=by simp;omega
 simp only [Bool.not_true,cond_false,ZaX,r1,Zb,e0,cond_true,hc]
 unfold resV
 generalize hE:(endV u t l (ZJ u) c).1=es at *
 generalize hG:gatE u t l (ZJ u) c=ga at *
 generalize (endV u t l (ZJ u) c).2.2.1=x
 generalize (endV u t l (ZJ u) c).2.2.2=y
 obtain ⟨st,ac,al⟩:=ga
 simp only at A B is
 have ga2:=g.b
 have gc2:=g.c
 simp only at ga2 gc2
 simp only [ln,cond_false,ZrI,is,Zb,Bool.not_true]
 have q1:=ZAK t es st al x y ac 0 (by omega)
 unfold Zgb at q1
 have w1:Zan (t,0,0,es,st,ac,al,x,y)=some (.inl (t,es,st,ac,al,x,y)):=by
  rw [q1]
  refine ZQH (N:=fun a:Ac=>a.2.1) (fun s=>rfl) ac 0 0 (fun j s d hd hs=>?_) (fun d hd=>(A.ent d hd).2.1) A.up
  obtain ⟨b1,b2,b3,e,b5,b6,b7⟩:=A.ent d hd
  unfold Zcu
  have k2:(d.1 !=t)=false:=by simp [b1]
  have k3:decide (d.2.1<s)=false:=decide_eq_false (by omega)
  have k4:decide (d.2.1≥(es.length:Int))=false:=decide_eq_false (by omega)
  have k5:decide (0≤d.2.1)=true:=decide_eq_true b2
  have k6:(d.2.2.2.2.2 !=e.2.2.2.2.1)=false:=by simp [b7]
  simp only [k2,k3,k4,k5,cond_false,cond_true,b5,Zb,b6,Bool.not_true,k6]
 have q2:=ZAL t es st ac x y al 0 (by omega)
 unfold Zgc at q2
 have w2:Zao (t,0,0,es,st,ac,al,x,y)=some (.inl ()):=by
  rw [q2]
  refine ZQH (N:=fun a:Al=>a.2.2.1) (fun s=>rfl) al 0 0 (fun j s d hd hs=>?_) (fun d hd=>(B.ent d hd).2.2.1) B.up
  obtain ⟨b1,b2,b3,b4,⟨e,b5,b6⟩,b7⟩:=B.ent d hd
  unfold Zcv
  have k1:(d.1 !=1)=false:=by simp [b1]
  have k2:(d.2.1 !=t)=false:=by simp [b2]
  have k3:decide (d.2.2.1<s)=false:=decide_eq_false (by omega)
  have k4:decide (d.2.2.1≥(es.length:Int))=false:=decide_eq_false (by omega)
  have k5:decide (0≤d.2.2.1)=true:=decide_eq_true b3
  have k6:(d.2.2.2.1==0)=false:=by simpa using b7
  simp only [k1,k2,k3,k4,k5,cond_false,cond_true,b5,Zb,b6,Bool.not_true,k6]
 simp only [w1,Zb,Sum.elim_inl,w2,ZO,ZyT]
end
end Go.Proofs.YtbdcblpjemmipaaGreat.Ex
