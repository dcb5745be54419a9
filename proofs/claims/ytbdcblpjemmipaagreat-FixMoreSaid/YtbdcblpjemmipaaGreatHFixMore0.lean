/- A part of the proofs of what is known of threads: HFixMore0. -/
import Derived.Test.YtbdcblpjemmipaaGreatHA
import Derived.Test.YtbdcblpjemmipaaGreatHC
import Derived.Test.YtbdcblpjemmipaaGreatHF
import Derived.Test.YtbdcblpjemmipaaGreatHG
import Derived.Test.YtbdcblpjemmipaaGreatHH
import Derived.Test.YtbdcblpjemmipaaGreatHI
namespace Go.Proofs.YtbdcblpjemmipaaGreat.Ex
open Go.Proofs
set_option maxRecDepth 100000
set_option maxHeartbeats 4000000
set_option linter.unusedVariables false
set_option linter.unusedSimpArgs false
set_option linter.unusedSectionVars false
noncomputable section
section
theorem ZHI (x y:I):leqB x (Zg x y)=true:=by
 simp only [leqB,Zg,Zd,nn,mn,mx,Bool.or_eq_true,Bool.and_eq_true,decide_eq_true_eq]
 (repeat' split)<;>simp_all<;>(try (repeat' split))<;>omega
theorem ZW9 (x y z:I):leqB (Zg x y) z=(leqB x z&&leqB y z):=by
 rw [Bool.eq_iff_iff]
 simp only [leqB,Zg,Zd,nn,mn,mx,Bool.or_eq_true,Bool.and_eq_true,decide_eq_true_eq]
 (repeat' split)<;>simp_all<;>(try (repeat' split))<;>omega
theorem Zwl {a b c d e f g k:Int} (hx:a≤b) (hy:c≤d):both (a,b) (c,d) (e,f) (g,k)=if e≤f∧g≤k then ((e,f),(g,k)) else (nn,nn):=by
 unfold both
 rw [Z8 hx,Z8 hy]
 by_cases h:e≤f∧g≤k
 ·rw [if_pos h,Z8 h.1,Z8 h.2];rfl
 ·rw [if_neg h]
  by_cases h1:e≤f
  ·rw [Z8 h1,ZnB (a:=g) (b:=k) (by omega)];rfl
  ·rw [ZnB (a:=e) (b:=f) (by omega)];rfl
theorem ZlE {a b c d:Int} (hx:a≤b) (hy:c≤d):iMeet (a,b) (c,d)=if a≤d∧c≤b then (mx a c,mn b d) else nn:=by
 unfold iMeet
 rw [Z8 hx,Z8 hy]
 simp only [Bool.false_eq_true,if_false]
 by_cases h:a≤d∧c≤b
 ·rw [if_pos h,Z8 (by unfold mx mn;omega)];simp
 ·rw [if_neg h,ZnB (by unfold mx mn;omega)];simp
section
variable {a b c d:Int} (hx:a≤b) (hy:c≤d)
include hx hy
theorem ZOt:refI 1 (a,b) (c,d)=if a<d then ((a,mn b (d - 1)),(mx c (a+1),d)) else (nn,nn):=by
 unfold refI;simp only [if_true]
 rw [Zwl hx hy]
 by_cases h:a<d
 ·rw [if_pos h,if_pos (by unfold mx mn;omega)]
 ·rw [if_neg h,if_neg (by unfold mx mn;omega)]
theorem ZOu:refI 2 (a,b) (c,d)=if a≤d then ((a,mn b d),(mx c a,d)) else (nn,nn):=by
 show both _ _ _ _=_
 rw [Zwl hx hy]
 by_cases h:a≤d
 ·rw [if_pos h,if_pos (by unfold mx mn;omega)]
 ·rw [if_neg h,if_neg (by unfold mx mn;omega)]
theorem ZOx:refI 5 (a,b) (c,d)=if c≤b then ((mx a c,b),(c,mn d b)) else (nn,nn):=by
 show both _ _ _ _=_
 rw [Zwl hx hy]
 by_cases h:c≤b
 ·rw [if_pos h,if_pos (by unfold mx mn;omega)]
 ·rw [if_neg h,if_neg (by unfold mx mn;omega)]
theorem ZOy:refI 6 (a,b) (c,d)=if c<b then ((mx a (c+1),b),(c,mn d (b - 1))) else (nn,nn):=by
 show both _ _ _ _=_
 rw [Zwl hx hy]
 by_cases h:c<b
 ·rw [if_pos h,if_pos (by unfold mx mn;omega)]
 ·rw [if_neg h,if_neg (by unfold mx mn;omega)]
theorem ZOv:refI 3 (a,b) (c,d)=if a≤d∧c≤b then ((mx a c,mn b d),(mx a c,mn b d)) else (nn,nn):=by
 show both _ _ _ _=_
 rw [ZlE hx hy]
 by_cases h:a≤d∧c≤b
 ·rw [if_pos h,if_pos h,Zwl hx hy,if_pos (by unfold mx mn;omega)]
 ·rw [if_neg h,if_neg h];unfold both;simp [show Zd nn=true from rfl]
omit hx hy in
theorem ZXT:wout (a,b) (c,d)=(if c=d∧a=c then a+1 else a,if c=d∧a≠c∧b=c then b - 1 else b):=by
 unfold wout
 by_cases h1:c=d
 ·by_cases h2:a=c
  ·simp [h1,h2]
  ·by_cases h3:b=c
   ·simp_all
   ·simp_all
 ·simp [h1]
theorem ZOw:refI 4 (a,b) (c,d)=if a=b∧c=d∧a=c then (nn,nn) else ((if c=d∧a=c then a+1 else a,if c=d∧a≠c∧b=c then b - 1 else b),(if a=b∧c=a then c+1 else c,if a=b∧c≠a∧d=a then d - 1 else d)):=by
 show both _ _ _ _=_
 rw [ZXT,ZXT,Zwl hx hy]
 by_cases h:a=b∧c=d∧a=c
 ·rw [if_pos h,if_neg (by obtain ⟨rfl,rfl,rfl⟩:=h;simp;try omega)]
 ·rw [if_neg h,if_pos (by constructor<;>omega)]
end
def bt (u v w:Int):Prop:=mn u v≤w∧w≤mx u v
theorem ZX7 {u v w:Int} (h:u≤w) (k:w≤v):bt u v w:=by unfold bt mn mx;constructor<;>split<;>omega
theorem ZX6 {u v w:Int} (h:v≤w) (k:w≤u):bt u v w:=by unfold bt mn mx;constructor<;>split<;>omega
theorem ZZr {a b p:Int} (h:a≤p) (k:p≤b) (q:Int):bt (a*q) (b*q) (p*q):=by
 by_cases hq:0≤q
 ·exact ZX7 (Int.mul_le_mul_of_nonneg_right h hq) (Int.mul_le_mul_of_nonneg_right k hq)
 ·exact ZX6 (Int.mul_le_mul_of_nonpos_right k (by omega)) (Int.mul_le_mul_of_nonpos_right h (by omega))
theorem bt_mul' {a b p:Int} (h:a≤p) (k:p≤b) (q:Int):bt (q*a) (q*b) (q*p):=by
 rw [Int.mul_comm q a,Int.mul_comm q b,Int.mul_comm q p];exact ZZr h k q
theorem four {a b c d u v w:Int} (h1:bt a b u) (h2:bt c d v) (h:bt u v w):mn (mn (mn a b) c) d≤w∧w≤mx (mx (mx a b) c) d:=by
 unfold bt mn mx at *
 obtain ⟨h1,h1'⟩:=h1
 obtain ⟨h2,h2'⟩:=h2
 obtain ⟨h,h'⟩:=h
 constructor
 ·clear h' h1' h2';(repeat' split at h1)<;>(repeat' split at h2)<;>(repeat' split at h)<;>(repeat' split)<;>omega
 ·clear h h1 h2;(repeat' split at h1')<;>(repeat' split at h2')<;>(repeat' split at h')<;>(repeat' split)<;>omega
theorem Zxd {x y:I} {p q:Int} (hp:x.1≤p∧p≤x.2) (hq:y.1≤q∧q≤y.2):(ZsH x y).1≤p*q∧p*q≤(ZsH x y).2:=
 four (bt_mul' hq.1 hq.2 x.1) (bt_mul' hq.1 hq.2 x.2) (ZZr hp.1 hp.2 q)
theorem ZMf {a b q:Int} (h:a≤b) (hq:0≤q):a.tdiv q≤b.tdiv q:=by
 by_cases h0:q=0
 ·subst h0;simp
 ·exact Int.tdiv_le_tdiv (by omega) h
theorem Z4a {a b p:Int} (h:a≤p) (k:p≤b) (q:Int):bt (a.tdiv q) (b.tdiv q) (p.tdiv q):=by
 by_cases hq:0≤q
 ·exact ZX7 (ZMf h hq) (ZMf k hq)
 ·have e:∀ n:Int,n.tdiv q = -(n.tdiv (-q)):=fun n=>by rw [Int.tdiv_neg];omega
  rw [e a,e b,e p]
  have:=ZMf h (q:=-q) (by omega)
  have:=ZMf k (q:=-q) (by omega)
  exact ZX6 (by omega) (by omega)
theorem ZDq {p c d:Int} (hp:0≤p) (hc:0<c) (h:c≤d):p.tdiv d≤p.tdiv c:=by
 rw [Int.tdiv_eq_ediv_of_nonneg hp,Int.tdiv_eq_ediv_of_nonneg hp]
 apply Int.le_ediv_of_mul_le hc
 have h1:0≤p / d:=Int.ediv_nonneg hp (by omega)
 have h2:p / d*c≤p / d*d:=Int.mul_le_mul_of_nonneg_left h h1
 have h3:p / d*d≤p:=Int.ediv_mul_le p (by omega)
 omega
theorem ZMK {p c d:Int} (hp:p≤0) (hc:0<c) (h:c≤d):p.tdiv c≤p.tdiv d:=by
 have:=ZDq (p:=-p) (by omega) hc h
 rw [Int.neg_tdiv,Int.neg_tdiv] at this
 omega
theorem ZL7 {c d q:Int} (hc:0<c) (h:c≤q) (k:q≤d) (p:Int):bt (p.tdiv c) (p.tdiv d) (p.tdiv q):=by
 by_cases hp:0≤p
 ·exact ZX6 (ZDq hp (by omega) k) (ZDq hp hc h)
 ·exact ZX7 (ZMK (by omega) hc h) (ZMK (by omega) (by omega) k)
theorem bt_div' {c d q:Int} (hc:0<c∨d<0) (h:c≤q) (k:q≤d) (p:Int):bt (p.tdiv c) (p.tdiv d) (p.tdiv q):=by
 rcases hc with hc | hc
 ·exact ZL7 hc h k p
 ·have:=ZL7 (c:=-d) (d:=-c) (q:=-q) (by omega) (by omega) (by omega) p
  rw [Int.tdiv_neg,Int.tdiv_neg,Int.tdiv_neg] at this
  unfold bt mn mx at *
  obtain ⟨h1,h2⟩:=this
  constructor
  ·clear h1;(repeat' split at h2)<;>(repeat' split)<;>omega
  ·clear h2;(repeat' split at h1)<;>(repeat' split)<;>omega
theorem Zss {x y:I} {p q:Int} (hc:0<y.1∨y.2<0) (hp:x.1≤p∧p≤x.2) (hq:y.1≤q∧q≤y.2):(Kf x y).1≤p.tdiv q∧p.tdiv q≤(Kf x y).2:=
 four (bt_div' hc hq.1 hq.2 x.1) (bt_div' hc hq.1 hq.2 x.2) (Z4a hp.1 hp.2 q)
theorem ZMC {a b c d:Int} (h:c≤a) (k:b≤d):leqB (a,b) (c,d)=true:=by simp [leqB];omega
theorem ZAP {x:I} {n:Int}:hasB x n=true↔x.1≤n∧n≤x.2:=by simp [hasB]
theorem KH {x y z:I} (h:leqB x y=true) (k:leqB y z=true):leqB x z=true:=by
 rw [QE] at *;unfold sub at *;omega
theorem ZVv {u v:I} (h:sub u v):leqB (iMeet u aa) (iMeet v aa)=true:=by
 obtain ⟨a,b⟩:=u
 obtain ⟨c,d⟩:=v
 unfold sub at h;simp only at h
 by_cases k:a≤b
 ·rw [show aa=((-2147483648,2147483647):I) from rfl,ZlE k (by decide),ZlE (by omega) (by decide)]
  by_cases k2:a≤2147483647 ∧ -2147483648≤b
  ·rw [if_pos k2,if_pos (by omega)]
   exact ZMC (by unfold mx;(repeat' split)<;>omega) (by unfold mn;(repeat' split)<;>omega)
  ·rw [if_neg k2];rfl
 ·have:iMeet (a,b) aa=nn:=by unfold iMeet;rw [ZnB (by omega)];rfl
  rw [this];rfl
theorem ZYm {u v:I} (h:sub u v) (k:u.1≤u.2) (ho:(!leqB u aa)=true):(!leqB v aa)=true:=by
 cases e:leqB v aa with
 | false=>rfl
 | true=>
  have:leqB u aa=true:=KH (QE.2 (.inr h)) e
  rw [this] at ho;cases ho
theorem ZXa (x y:I):leqB y (Zg x y)=true:=by rw [Zfb];exact ZHI y x
theorem ZPx {x y z w:I} (h:leqB x z=true) (k:leqB y w=true):leqB (Zg x y) (Zg z w)=true:=by
 rw [ZW9,KH h (ZHI z w),KH k (ZXa z w)];rfl
theorem ZW3 {a b c d l h:Int} (h1:l≤a∧a≤h) (h2:l≤b∧b≤h) (h3:l≤c∧c≤h) (h4:l≤d∧d≤h) :
  l≤mn (mn (mn a b) c) d∧mx (mx (mx a b) c) d≤h:=by
 unfold mn mx;constructor<;>(repeat' split)<;>omega
theorem Z1I {x y z w:I} (kx:x.1≤x.2) (ky:y.1≤y.2) (h:sub x z) (k:sub y w):sub (ZsH x y) (ZsH z w):=by
 unfold sub at h k
 exact ZW3 (Zxd (by omega) (by omega)) (Zxd (by omega) (by omega)) (Zxd (by omega) (by omega)) (Zxd (by omega) (by omega))
theorem ZSh {x y z w:I} (hc:0<w.1∨w.2<0) (kx:x.1≤x.2) (ky:y.1≤y.2) (h:sub x z) (k:sub y w):sub (Kf x y) (Kf z w):=by
 unfold sub at h k
 exact ZW3 (Zss hc (by omega) (by omega)) (Zss hc (by omega) (by omega)) (Zss hc (by omega) (by omega)) (Zss hc (by omega) (by omega))
theorem ZS7 {y w p:I} (hp:p.1≤p.2) (k:sub y w) (h:Zd (iMeet y p)=false) :
  sub (iMeet y p) (iMeet w p)∧Zd (iMeet w p)=false∧p.1≤(iMeet w p).1∧(iMeet w p).2≤p.2:=by
 obtain ⟨e1,e2,e3,e4⟩:=Zw5 h
 obtain ⟨a,b⟩:=y
 obtain ⟨c,d⟩:=w
 obtain ⟨m,n⟩:=p
 unfold sub at *
 simp only at *
 have q1:mx a m=a∨mx a m=m:=by unfold mx;split<;>simp
 have q2:a≤mx a m∧m≤mx a m:=by unfold mx;split<;>omega
 have q3:mn b n=b∨mn b n=n:=by unfold mn;split<;>simp
 have q4:mn b n≤b∧mn b n≤n:=by unfold mn;split<;>omega
 rw [ZlE (show c≤d by omega) hp,if_pos (by omega),e1]
 have r1:mx c m=c∨mx c m=m:=by unfold mx;split<;>simp
 have r2:c≤mx c m∧m≤mx c m:=by unfold mx;split<;>omega
 have r3:mn d n=d∨mn d n=n:=by unfold mn;split<;>simp
 have r4:mn d n≤d∧mn d n≤n:=by unfold mn;split<;>omega
 refine ⟨⟨?_,?_⟩,Z8 ?_,?_,?_⟩<;>(try simp only)<;>omega
def lessF (u v:I×Bool):Prop:=leqB u.1 v.1=true∧(u.2=true→v.2=true)
theorem ZI1 {u v:I} (h:sub u v) (k:u.1≤u.2):lessF (iMeet u aa,!leqB u aa) (iMeet v aa,!leqB v aa):=⟨ZVv h,fun e=>ZYm h k e⟩
theorem Z1Q {x y z w:I} (kx:x.1≤x.2) (h:sub x z) (k:sub y w):lessF (ZqT x y) (ZqT z w):=by
 unfold ZqT
 cases hy:Zd (iMeet y pP) with
 | true=>exact ⟨rfl,fun e=>(nomatch e)⟩
 | false=>
  obtain ⟨a1,a2,a3,a4⟩:=ZS7 (p:=pP) (by decide) k hy
  rw [a2,if_neg (by decide),if_neg (by decide)]
  have f:=ZI1 (ZSh (x:=x) (y:=iMeet y pP) (z:=z) (w:=iMeet w pP) (.inl (by simp only [pP] at a3 ⊢;omega)) kx (ZS hy) h a1) (Zwn _ _)
  exact ⟨ZPx rfl f.1,f.2⟩
theorem ZXx {x y z w:I} (kx:x.1≤x.2) (h:sub x z) (k:sub y w):lessF (quoV x y) (quoV z w):=by
 have q:=Z1Q kx h k
 unfold quoV
 cases hy:Zd (iMeet y pM) with
 | true=>
  rw [if_pos rfl]
  split
  ·exact q
  ·exact ⟨KH q.1 (ZHI _ _),fun e=>by simp only [q.2 e,Bool.true_or]⟩
 | false=>
  obtain ⟨a1,a2,a3,a4⟩:=ZS7 (p:=pM) (by decide) k hy
  rw [a2,if_neg (by decide),if_neg (by decide)]
  have f:=ZI1 (ZSh (x:=x) (y:=iMeet y pM) (z:=z) (w:=iMeet w pM) (.inr (by simp only [pM] at a4 ⊢;omega)) kx (ZS hy) h a1) (Zwn _ _)
  refine ⟨ZPx q.1 f.1,fun e=>?_⟩
  simp only [Bool.or_eq_true] at e ⊢
  exact e.imp q.2 f.2
theorem Z3q {x y z w:I} (kx:x.1≤x.2) (ky:y.1≤y.2) (h:sub x z) (k:sub y w):leqB (remI x y) (remI z w)=true:=by
 unfold remI
 by_cases h0:y.1=0∧y.2=0
 ·rw [if_pos h0];rfl
 ·unfold sub at h k
  rw [if_neg h0,if_neg (by omega),QE]
  right
  have hm:mx (mx (mx y.2 (-y.2)) y.1) (-y.1) - 1≤mx (mx (mx w.2 (-w.2)) w.1) (-w.1) - 1:=by
   have:y.2≤mx (mx (mx w.2 (-w.2)) w.1) (-w.1) ∧ -y.2≤mx (mx (mx w.2 (-w.2)) w.1) (-w.1)∧y.1≤mx (mx (mx w.2 (-w.2)) w.1) (-w.1) ∧ -y.1≤mx (mx (mx w.2 (-w.2)) w.1) (-w.1):=by
    unfold mx;(repeat' split)<;>omega
   generalize mx (mx (mx w.2 (-w.2)) w.1) (-w.1)=m at this ⊢
   unfold mx;(repeat' split)<;>omega
  generalize mx (mx (mx w.2 (-w.2)) w.1) (-w.1) - 1=m' at hm
  generalize hm0:mx (mx (mx y.2 (-y.2)) y.1) (-y.1) - 1=m at hm
  have hm1:0≤m:=by rw [← hm0];unfold mx;(repeat' split)<;>omega
  clear hm0
  unfold sub mx mn
  simp only
  constructor
  ·by_cases c1:x.1<0<;>by_cases c2:z.1<0<;>simp only [c1,c2,if_true,if_false]<;>(repeat' split)<;>omega
  ·by_cases c1:x.2>0<;>by_cases c2:z.2>0<;>simp only [c1,c2,if_true,if_false]<;>(repeat' split)<;>omega
def moreQ (u v:R3):Prop:=leqB u.1 v.1=true∧(u.2.1=true→v.2.1=true)∧(u.2.2=true→v.2.2=true)
theorem ZXh (op:Int) {x y z w:I} (kx:Zd x=false) (ky:Zd y=false) (h:sub x z) (k:sub y w):moreQ (doI op x y) (doI op z w):=by
 have lx:=ZS kx
 have ly:=ZS ky
 have hz:z.1≤z.2:=by unfold sub at h;omega
 have hw:w.1≤w.2:=by unfold sub at k;omega
 have kz:Zd z=false:=by simp only [Zd,decide_eq_false_iff_not];omega
 have kw:Zd w=false:=by simp only [Zd,decide_eq_false_iff_not];omega
 have fin:∀ {u v:I},sub u v→u.1≤u.2→moreQ (WW u) (WW v):=fun h k=>⟨(ZI1 h k).1,(ZI1 h k).2,id⟩
 have zer:hasB y 0=true→hasB w 0=true:=by rw [ZAP,ZAP];unfold sub at k;omega
 unfold doI
 rw [kx,ky,kz,kw]
 simp only [Bool.or_self,Bool.false_eq_true,if_false]
 unfold sub at h k
 (repeat' split)
 ·exact fin (by unfold sub;simp only;omega) (by simp only;omega)
 ·exact fin (by unfold sub;simp only;omega) (by simp only;omega)
 ·exact fin (Z1I lx ly h k) (ZXi _ _)
 ·exact ⟨(ZXx lx h k).1,(ZXx lx h k).2,zer⟩
 ·exact ⟨Z3q lx ly h k,id,zer⟩
 ·exact ⟨rfl,id,id⟩
end
def ZQz:List Sh:=[.dat (.int .i64)]
def ZTZ:List Con:=[]
def Zg4:=conP true ZQz (.dat .bool) Zo
theorem Zlr:Zf Tryz.prog 31 Zg4:=Ze (calU ZTZ [] 40 1048576 8 31) true (by rfl) (by rfl) (fun x r e=>(Zk _ _ _ _ _ _ _).trans ((show _=Zo x by kernel_rfl).trans e)) (.inl rfl)
def ZEH:List Sh:=[]
def ZIK:List Con:=[]
def ZKn:Option I:=some (1,0)
theorem ZQM:evGX (cxU ZIK [] 40 1048576) keeps 8 95 ZEH (.dat tI) (():Unit)=ZKn:=by kernel_rfl
def ZUy (x:Unit):Option I:=ZKn
def Vk:=conP true ZEH (.dat tI) ZUy
theorem Za3:Zf Tryz.prog 95 Vk:=Ze (calU ZIK [] 40 1048576 8 95) true (by rfl) (by rfl) (fun x r e=>(Zk _ _ _ _ _ _ _).trans ((ZQM ).trans e)) (.inl rfl)
def ZUK:List Sh:=[.dat (.int .i64),.dat (.int .i64)]
def ZYV:List Con:=[]
def Zs7:=conP true ZUK (.dat .bool) Zi
theorem Zz7:Zf Tryz.prog 100 Zs7:=Ze (calU ZYV [] 40 1048576 8 100) true (by rfl) (by rfl) (fun x r e=>(Zk _ _ _ _ _ _ _).trans ((show _=Zi x by kernel_rfl).trans e)) (.inl rfl)
def ZQF:List Sh:=[.dat (.int .i64),.dat (.int .i64)]
def ZtV:Nat→List Nat:=fun c=>bif c.beq 0 then [5,6,7] else [4]
def ZIM:List Con:=[]
def Zgv:StS:=⟨[(5,.str),(6,.int .u8),(7,.int .i64)],[],0⟩
def Wz:StS:=⟨[(4,.undef)],[],0⟩
def WA:StS:=⟨[(4,.bool)],[],0⟩
def ZCS:StD Zgv→Zbz:=fun ((a,b,c,_),_)=>(a,b,c)
def ZEC:Zbz→StD Zgv:=fun (a,b,c)=>((a,b,c,()),())
def ZVn (d:StD Wz):ZdA:=()
def ZiY (x:ZdA):StD Wz:=(((),()),())
def ZVo (d:StD WA):ZdB:=(d.1.1)
def ZiZ (x:ZdB):StD WA:=((x,()),())
def ZvF:Nat→Tm→Prog (Nat×Tm):=(varP 0 (fun T h=>(rdS Zgv T h).map ZCS) Zrx (fun y=>.alt y (altE 2 Wz ZiY) (altE 1 WA ZiZ)) (fun _ _=>.fail))
def ZH0:Lpc:=⟨180,0,25,(fun base T=>.norm base (ZtV 0) T (ZvF base)),by kernel_rfl,by kernel_rfl,(loopU ZIM [] 40 1048576 8 (keep:=ZtV) (q:=ZvF) (by kernel_rfl) (Zv (s:=Zgv) (un:=ZEC) (by rfl) (fun _=>rfl) (ZW (Zn (s:=Wz) (un:=ZiY) (flat:=ZVn) (by rfl) (fun _=>rfl)) (Zn (s:=WA) (un:=ZiZ) (flat:=ZVo) (by rfl) (fun _=>rfl))) (step:=Zro) (fun _=>by kernel_rfl) (fun _ _ e=>⟨_,e⟩) (ZV (Zm 2 Wz ZiY) (Zm 1 WA ZiZ)) (ZB.fail _ _)))⟩
def ZET:=conP true ZQF (.dat .bool) Zs3
theorem ZQ1:Zf Tryz.prog 180 ZET:=Ze (calU ZIM [ZH0] 40 1048576 8 180) true (by rfl) (by rfl) (fun x r e=>(Zk _ _ _ _ _ _ _).trans ((show _=Zs3 x by kernel_rfl).trans e)) (.inl rfl)
def ZR1:List Sh:=[.dat (.int .i64),.dat (.int .i64),.dat (.int .i64),.dat (.int .i64)]
def ZV4:List Con:=[⟨180,ZET,ZQ1⟩,⟨100,Zs7,Zz7⟩]
def ZHg:=conP true ZR1 (.dat .bool) Zc
theorem ZTJ:Zf Tryz.prog 141 ZHg:=Ze (calU ZV4 [] 40 1048576 8 141) true (by rfl) (by rfl) (fun x r e=>(Zk _ _ _ _ _ _ _).trans ((show _=Zc x by kernel_rfl).trans e)) (.inl rfl)
def ZR0:List Sh:=[.dat tU,.dat tC,.dat tA]
def ZV3:List Con:=[⟨31,Zg4,Zlr⟩,⟨100,Zs7,Zz7⟩,⟨141,ZHg,ZTJ⟩]
def ZHf:=conP true ZR0 (.dat .bool) Zp4
theorem ZTI:Zf Tryz.prog 101 ZHf:=Ze (calU ZV3 [] 40 1048576 8 101) true (by rfl) (by rfl) (fun x r e=>(Zk _ _ _ _ _ _ _).trans ((show _=Zp4 x by kernel_rfl).trans e)) (.inl rfl)
def ZUJ:List Sh:=[.dat tU]
def ZyW:Nat→List Nat:=fun c=>bif c.beq 0 then [1,3] else [1,2]
def ZyX:Nat→List Nat:=fun c=>bif c.beq 0 then [1,4] else [1,2]
def ZyZ:Nat→List Nat:=fun c=>bif c.beq 0 then [1,5,6,7,8] else [1,2,5]
def ZyY:Nat→List Nat:=fun c=>bif c.beq 0 then [1,5] else [2]
def Zib:List Con:=[⟨100,Zs7,Zz7⟩,⟨31,Zg4,Zlr⟩,⟨101,ZHf,ZTI⟩]
def Zk0:StS:=⟨[(1,.ptr 0 0),(3,.int .i64)],[(0,.box [.sl (.int .i64),.sl (.int .i64),.int .i64,.sl tC])],1⟩
def Zdc:StS:=⟨[(1,.ptr 0 0),(2,.undef)],[(0,.box [.sl (.int .i64),.sl (.int .i64),.int .i64,.sl tC])],1⟩
def Zdd:StS:=⟨[(1,.ptr 0 0),(2,.bool)],[(0,.box [.sl (.int .i64),.sl (.int .i64),.int .i64,.sl tC])],1⟩
def ZJs:StD Zk0→Zb5:=fun ((_,a,_),((b,c,d,e,_),_))=>(a,b,c,d,e)
def ZJ5:Zb5→StD Zk0:=fun (a,b,c,d,e)=>(((),a,()),((b,c,d,e,()),()))
def ZY5:StD Zdc→Yh:=fun ((_,_,_),((a,b,c,d,_),_))=>(a,b,c,d)
def Zmk:Yh→StD Zdc:=fun (a,b,c,d)=>(((),(),()),((a,b,c,d,()),()))
def ZY6:StD Zdd→Yi:=fun ((_,a,_),((b,c,d,e,_),_))=>(a,b,c,d,e)
def Zml:Yi→StD Zdd:=fun (a,b,c,d,e)=>(((),a,()),((b,c,d,e,()),()))
def ZA8:Nat→Tm→Prog (Nat×Tm):=(varP 0 (fun T h=>(rdS Zk0 T h).map ZJs) Zfs (fun y=>.alt y (altE 2 Zdc Zmk) (altE 1 Zdd Zml)) (fun _ _=>.fail))
def WZ:Lpc:=⟨64,0,123,(fun base T=>.norm base (ZyW 0) T (ZA8 base)),by kernel_rfl,by kernel_rfl,(loopU Zib [] 40 1048576 8 (keep:=ZyW) (q:=ZA8) (by kernel_rfl) (Zv (s:=Zk0) (un:=ZJ5) (by rfl) (fun _=>rfl) (ZW (Zn (s:=Zdc) (un:=Zmk) (flat:=ZY5) (by rfl) (fun _=>rfl)) (Zn (s:=Zdd) (un:=Zml) (flat:=ZY6) (by rfl) (fun _=>rfl))) (step:=ZvJ) (fun _=>by kernel_rfl) (fun _ _ e=>⟨_,e⟩) (ZV (Zm 2 Zdc Zmk) (Zm 1 Zdd Zml)) (ZB.fail _ _)))⟩
abbrev Z2t:=cxU Zib [WZ] 40 1048576
def Zk1:StS:=⟨[(1,.ptr 0 0),(4,.int .i64)],[(0,.box [.sl (.int .i64),.sl (.int .i64),.int .i64,.sl tC])],1⟩
def Zde:StS:=⟨[(1,.ptr 0 0),(2,.undef)],[(0,.box [.sl (.int .i64),.sl (.int .i64),.int .i64,.sl tC])],1⟩
def Zdf:StS:=⟨[(1,.ptr 0 0),(2,.bool)],[(0,.box [.sl (.int .i64),.sl (.int .i64),.int .i64,.sl tC])],1⟩
def ZJt:StD Zk1→Zb6:=fun ((_,a,_),((b,c,d,e,_),_))=>(a,b,c,d,e)
def ZJ6:Zb6→StD Zk1:=fun (a,b,c,d,e)=>(((),a,()),((b,c,d,e,()),()))
def ZY7:StD Zde→Yj:=fun ((_,_,_),((a,b,c,d,_),_))=>(a,b,c,d)
def Zmm:Yj→StD Zde:=fun (a,b,c,d)=>(((),(),()),((a,b,c,d,()),()))
def ZY8:StD Zdf→Yk:=fun ((_,a,_),((b,c,d,e,_),_))=>(a,b,c,d,e)
def Zmn:Yk→StD Zdf:=fun (a,b,c,d,e)=>(((),a,()),((b,c,d,e,()),()))
def ZA9:Nat→Tm→Prog (Nat×Tm):=(varP 0 (fun T h=>(rdS Zk1 T h).map ZJt) Zft (fun y=>.alt y (altE 4 Zde Zmm) (altE 1 Zdf Zmn)) (fun _ _=>.fail))
def ZhI:Lpc:=⟨64,2,123,(fun base T=>.norm base (ZyX 0) T (ZA9 base)),by kernel_rfl,by kernel_rfl,(loopU Zib [WZ] 40 1048576 8 (keep:=ZyX) (q:=ZA9) (by kernel_rfl) (Zv (s:=Zk1) (un:=ZJ6) (by rfl) (fun _=>rfl) (ZW (Zn (s:=Zde) (un:=Zmm) (flat:=ZY7) (by rfl) (fun _=>rfl)) (Zn (s:=Zdf) (un:=Zmn) (flat:=ZY8) (by rfl) (fun _=>rfl))) (step:=ZvK) (fun _=>by kernel_rfl) (fun _ _ e=>⟨_,e⟩) (ZV (Zm 4 Zde Zmm) (Zm 1 Zdf Zmn)) (ZB.fail _ _)))⟩
abbrev Z2v:=cxU Zib [WZ,ZhI] 40 1048576
def Zk3:StS:=⟨[(1,.ptr 0 0),(5,.int .i64),(6,.ptr 1 0),(7,.int .i64),(8,.int .i64)],[(0,.box [.sl (.int .i64),.sl (.int .i64),.int .i64,.sl tC]),(1,.box [.int .i64,.sl tA])],2⟩
def Zdi:StS:=⟨[(1,.ptr 0 0),(2,.undef),(5,.int .i64)],[(0,.box [.sl (.int .i64),.sl (.int .i64),.int .i64,.sl tC])],1⟩
def Zdj:StS:=⟨[(1,.ptr 0 0),(2,.bool),(5,.int .i64)],[(0,.box [.sl (.int .i64),.sl (.int .i64),.int .i64,.sl tC])],1⟩
def ZJv:StD Zk3→Zb7:=fun ((_,a,_,b,c,_),((d,e,f,g,_),(h,i,_),_))=>(a,b,c,d,e,f,g,h,i)
def ZJ8:Zb7→StD Zk3:=fun (a,b,c,d,e,f,g,h,i)=>(((),a,(),b,c,()),((d,e,f,g,()),(h,i,()),()))
def ZZb:StD Zdi→Yl:=fun ((_,_,a,_),((b,c,d,e,_),_))=>(a,b,c,d,e)
def Zmq:Yl→StD Zdi:=fun (a,b,c,d,e)=>(((),(),a,()),((b,c,d,e,()),()))
def ZZc:StD Zdj→Ym:=fun ((_,a,b,_),((c,d,e,f,_),_))=>(a,b,c,d,e,f)
def Zmr:Ym→StD Zdj:=fun (a,b,c,d,e,f)=>(((),a,b,()),((c,d,e,f,()),()))
def ZBb:Nat→Tm→Prog (Nat×Tm):=(varP 0 (fun T h=>(rdS Zk3 T h).map ZJv) Zb2 (fun y=>.alt y (altE 8 Zdi Zmq) (altE 1 Zdj Zmr)) (fun _ _=>.fail))
def ZqK:Lpc:=⟨64,6,123,(fun base T=>.norm base (ZyZ 0) T (ZBb base)),by kernel_rfl,by kernel_rfl,(loopU Zib [WZ,ZhI] 40 1048576 8 (keep:=ZyZ) (q:=ZBb) (by kernel_rfl) (Zv (s:=Zk3) (un:=ZJ8) (by rfl) (fun _=>rfl) (ZW (Zn (s:=Zdi) (un:=Zmq) (flat:=ZZb) (by rfl) (fun _=>rfl)) (Zn (s:=Zdj) (un:=Zmr) (flat:=ZZc) (by rfl) (fun _=>rfl))) (step:=ZvM) (fun _=>by kernel_rfl) (fun _ _ e=>⟨_,e⟩) (ZV (Zm 8 Zdi Zmq) (Zm 1 Zdj Zmr)) (ZB.fail _ _)))⟩
abbrev Z2u:=cxU Zib [WZ,ZhI,ZqK] 40 1048576
def Zk2:StS:=⟨[(1,.ptr 0 0),(5,.int .i64)],[(0,.box [.sl (.int .i64),.sl (.int .i64),.int .i64,.sl tC])],1⟩
def Zdg:StS:=⟨[(2,.undef)],[],0⟩
def Zdh:StS:=⟨[(2,.bool)],[],0⟩
def ZJu:StD Zk2→Zfy:=fun ((_,a,_),((b,c,d,e,_),_))=>(a,b,c,d,e)
def ZJ7:Zfy→StD Zk2:=fun (a,b,c,d,e)=>(((),a,()),((b,c,d,e,()),()))
def ZY9 (d:StD Zdg):Zhw:=()
def Zmo (x:Zhw):StD Zdg:=(((),()),())
def ZZa (d:StD Zdh):Zhx:=(d.1.1)
def Zmp (x:Zhx):StD Zdh:=((x,()),())
def ZBa:Nat→Tm→Prog (Nat×Tm):=(varP 0 (fun T h=>(rdS Zk2 T h).map ZJu) Zfu (fun y=>.alt y (altE 6 Zdg Zmo) (altE 1 Zdh Zmp)) (fun _ _=>.fail))
def ZMA:Lpc:=⟨64,4,123,(fun base T=>.norm base (ZyY 0) T (ZBa base)),by kernel_rfl,by kernel_rfl,(loopU Zib [WZ,ZhI,ZqK] 40 1048576 8 (keep:=ZyY) (q:=ZBa) (by kernel_rfl) (Zv (s:=Zk2) (un:=ZJ7) (by rfl) (fun _=>rfl) (ZW (Zn (s:=Zdg) (un:=Zmo) (flat:=ZY9) (by rfl) (fun _=>rfl)) (Zn (s:=Zdh) (un:=Zmp) (flat:=ZZa) (by rfl) (fun _=>rfl))) (step:=ZvL) (fun _=>by kernel_rfl) (fun _ _ e=>⟨_,e⟩) (ZV (Zm 6 Zdg Zmo) (Zm 1 Zdh Zmp)) (ZB.fail _ _)))⟩
def Zzv:=conP true ZUJ (.dat .bool) Zpm
theorem ZKH:Zf Tryz.prog 64 Zzv:=Ze (calU Zib [WZ,ZhI,ZqK,ZMA] 40 1048576 8 64) true (by rfl) (by rfl) (fun x r e=>(Zk _ _ _ _ _ _ _).trans ((show _=Zpm x by kernel_rfl).trans e)) (.inl rfl)
def ZUI:List Sh:=[.dat tI]
def ZYU:List Con:=[⟨95,Vk,Za3⟩,⟨31,Zg4,Zlr⟩]
def ZHD (a0:I):Option Bool:=bif a0.1==1&&a0.2==0 then some true else bif decide (a0.1≤a0.2) then Za (Zo (a0.1,())) none fun d2=>bif d2 then Za (Zo (a0.2,())) none fun d3=>some d3 else some false else some false
def Zkf (x:I×Unit):Option Bool:=ZHD x.1
def Zzu:=conP true ZUI (.dat .bool) Zkf
theorem ZKG:Zf Tryz.prog 60 Zzu:=Ze (calU ZYU [] 40 1048576 8 60) true (by rfl) (by rfl) (fun x r e=>(Zk _ _ _ _ _ _ _).trans ((show _=Zkf x by kernel_rfl).trans e)) (.inl rfl)
theorem ZPC (x:I):ZHD x=some (isB x):=by
 unfold ZHD Zo isB
 simp only [Qf,Zb]
 cases (x.1==1&&x.2==0)
 ·cases decide (x.1≤x.2)
  ·rfl
  ·cases fitB x.1<;>rfl
 ·rfl
def ZQp:List Sh:=[.dat tU,.dat (.int .i64)]
def Zu8:Nat→List Nat:=fun c=>bif c.beq 0 then [1,2,5,6] else [2,4]
def ZIF:List Con:=[⟨64,Zzv,ZKH⟩]
def ZhS:StS:=⟨[(1,.int .i64),(2,.ptr 0 0),(5,.int .i64),(6,.int .i64)],[(0,.box [.sl (.int .i64),.sl (.int .i64),.int .i64,.sl tC])],1⟩
def Zay:StS:=⟨[(2,.ptr 0 0),(4,.undef)],[(0,.box [.sl (.int .i64),.sl (.int .i64),.int .i64,.sl tC])],1⟩
def Zaz:StS:=⟨[(2,.ptr 0 0),(4,.bool)],[(0,.box [.sl (.int .i64),.sl (.int .i64),.int .i64,.sl tC])],1⟩
abbrev VE:=(Int×Int×Int×(List Int)×(List Int)×Int×(List C))
def ZFE:StD ZhS→VE:=fun ((a,_,b,c,_),((d,e,f,g,_),_))=>(a,b,c,d,e,f,g)
def ZGK:VE→StD ZhS:=fun (a,b,c,d,e,f,g)=>((a,(),b,c,()),((d,e,f,g,()),()))
abbrev J3:=((List Int)×(List Int)×Int×(List C))
def ZWG:StD Zay→J3:=fun ((_,_,_),((a,b,c,d,_),_))=>(a,b,c,d)
def ZjU:J3→StD Zay:=fun (a,b,c,d)=>(((),(),()),((a,b,c,d,()),()))
abbrev J4:=(Bool×(List Int)×(List Int)×Int×(List C))
def ZWH:StD Zaz→J4:=fun ((_,a,_),((b,c,d,e,_),_))=>(a,b,c,d,e)
def ZjV:J4→StD Zaz:=fun (a,b,c,d,e)=>(((),a,()),((b,c,d,e,()),()))
def ZbI (s1 s5 s6:Int) (b0 b0_1:List Int) (b0_2:Int) (b0_3:List C):Option ((Int×Int×Int×(List Int)×(List Int)×Int×(List C))⊕(((List Int)×(List Int)×Int×(List C))⊕(Bool×(List Int)×(List Int)×Int×(List C)))):=bif decide (s6<(b0_3.length:Int)) then bif decide (0≤s6) then Za b0_3[s6.toNat]? none fun d9=>bif decide (IntKind.i64.wrap (s5+(List.length d9.2:Int))>s1) then some (.inr (.inr (true,b0,b0_1,b0_2,b0_3))) else some (.inl (s1,IntKind.i64.wrap (s5+(List.length d9.2:Int)),IntKind.i64.wrap (s6+1),b0,b0_1,b0_2,b0_3)) else none else some (.inr (.inl (b0,b0_1,b0_2,b0_3)))
def Zr2:VE→Option (VE⊕(J3⊕J4)):=fun (a,b,c,d,e,f,g)=>ZbI a b c d e f g
def ZcD (x:VE):Option (J3⊕J4):=Zh Zr2 Zl x
def Zxr:Nat→Tm→Prog (Nat×Tm):=(varP 0 (fun T h=>(rdS ZhS T h).map ZFE) ZcD (fun y=>.alt y (altE 2 Zay ZjU) (altE 1 Zaz ZjV)) (fun _ _=>.fail))
def ZJB:Lpc:=⟨48,0,45,(fun base T=>.norm base (Zu8 0) T (Zxr base)),by kernel_rfl,by kernel_rfl,(loopU ZIF [] 40 1048576 8 (keep:=Zu8) (q:=Zxr) (by kernel_rfl) (Zv (s:=ZhS) (un:=ZGK) (by rfl) (fun _=>rfl) (ZW (Zn (s:=Zay) (un:=ZjU) (flat:=ZWG) (by rfl) (fun _=>rfl)) (Zn (s:=Zaz) (un:=ZjV) (flat:=ZWH) (by rfl) (fun _=>rfl))) (step:=Zr2) (fun _=>by kernel_rfl) (fun _ _ e=>⟨_,e⟩) (ZV (Zm 2 Zay ZjU) (Zm 1 Zaz ZjV)) (ZB.fail _ _)))⟩
def ZzI (a0:U) (a1:Int):Option Bool:=bif decide ((List.length a0.2.2.2:Int)>4) then some true else bif decide ((List.length a0.1:Int)>10) then some true else bif decide ((List.length a0.2.1:Int)>10) then some true else Za (ZcD (a1,0,0,a0)) none fun d4=>Sum.elim (fun e5=>Za (Zpm (e5,())) none fun d6=>some !d6) (fun e5=>some e5.1) d4
def Zs0 (x:U×(Int×Unit)):Option Bool:=ZzI x.1 x.2.1
def ZEO:=conP true ZQp (.dat .bool) Zs0
theorem ZQW:Zf Tryz.prog 48 ZEO:=Ze (calU ZIF [ZJB] 40 1048576 8 48) true (by rfl) (by rfl) (fun x r e=>(Zk _ _ _ _ _ _ _).trans ((show _=Zs0 x by kernel_rfl).trans e)) (.inl rfl)
def HF (s1:Int) (b0 b0_1:List Int) (b0_2:Int) (b0_3:List C) (i:Nat) (s5:Int) (d:C):Option (Int⊕(J3⊕J4)):=
 bif decide (IntKind.i64.wrap (s5+(↑(List.length d.2):Int))>s1) then
  some (.inr (.inr (true,b0,b0_1,b0_2,b0_3)))
 else some (.inl (IntKind.i64.wrap (s5+(↑(List.length d.2):Int))))
def Zf2 (s1:Int) (b0 b0_1:List Int) (b0_2:Int) (b0_3:List C) (s5:Int):Option (J3⊕J4):=
 some (.inl (b0,b0_1,b0_2,b0_3))
abbrev ZGo (s1:Int) (b0 b0_1:List Int) (b0_2:Int) (b0_3:List C) (i:Nat) (s:Int):VE:=(s1,s,(i:Int),b0,b0_1,b0_2,b0_3)
def Zl2 (s1:Int) (b0 b0_1:List Int) (b0_2:Int) (b0_3:List C) (s:Int):Option (J3⊕J4):=Zp (fun i s d=>HF s1 b0 b0_1 b0_2 b0_3 i s d) (fun s=>Zf2 s1 b0 b0_1 b0_2 b0_3 s) 0 b0_3 s
theorem ZGc (s1:Int) (b0 b0_1:List Int) (b0_2:Int) (b0_3:List C) (s:Int) (hl:b0_3.length<9223372036854775807):ZcD (s1,s,0,b0,b0_1,b0_2,b0_3)=Zl2 s1 b0 b0_1 b0_2 b0_3 s:=by
 unfold ZcD Zl2
 refine Zs b0_3 (ZGo s1 b0 b0_1 b0_2 b0_3) _ _ ?_ ?_ s (by unfold Zl;omega)
 ·intro i s d hi hd
  have e1:decide ((i:Int)<(b0_3.length:Int))=true:=dT0 (by omega)
  have e2:decide (0≤(i:Int))=true:=dT0 (by omega)
  have e3:Int.toNat (i:Int)=i:=tN0 i
  have e4:=Zq hi (Nat.le_of_lt hl)
  show ZbI (s1) (s) ((i:Int)) (b0) (b0_1) (b0_2) (b0_3)=upd _ (HF s1 b0 b0_1 b0_2 b0_3 i s d)
  unfold ZbI HF
  simp only [e1,e2,e3,e4,hd,cond_true,cond_false,Zb,ZC,ZF,ZD,ZI,ZJ,ZE]
 ·intro s
  have e1:decide ((b0_3.length:Int)<(b0_3.length:Int))=false:=dF0 (by omega)
  show ZbI (s1) (s) ((b0_3.length:Int)) (b0) (b0_1) (b0_2) (b0_3)=_
  unfold ZbI Zf2
  rw [e1]
  rfl
def ZQw:List Sh:=[.dat tEn]
def ZTY:List Con:=[]
def ZEQ:=conP true ZQw (.dat (.int .i64)) Zot
theorem ZQY:Zf Tryz.prog 96 ZEQ:=Ze (calU ZTY [] 40 1048576 8 96) true (by rfl) (by rfl) (fun x r e=>(Zk _ _ _ _ _ _ _).trans ((show _=Zot x by kernel_rfl).trans e)) (.inl rfl)
def ZL4:List Sh:=[.dat tEn,.dat tEn]
def ZrL:Nat→List Nat:=fun c=>bif c.beq 0 then [5,6,7] else [4]
def ZBR:List Con:=[⟨96,ZEQ,ZQY⟩]
def ZeU:StS:=⟨[(5,.row 0),(6,.row 1),(7,.int .i64)],[(0,.row (.int .i64)),(1,.row (.int .i64))],2⟩
def Vd:StS:=⟨[(4,.undef)],[],0⟩
def Ve:StS:=⟨[(4,.int .i64)],[],0⟩
def ZAK:StD ZeU→WQ:=fun ((_,_,a,_),(b,c,_))=>(a,b,c)
def ZCb:WQ→StD ZeU:=fun (a,b,c)=>(((),(),a,()),(b,c,()))
def ZUt (d:StD Vd):Zcj:=()
def ZgU (x:Zcj):StD Vd:=(((),()),())
def ZUu (d:StD Ve):Zck:=(d.1.1)
def ZgV (x:Zck):StD Ve:=((x,()),())
def Zua:Nat→Tm→Prog (Nat×Tm):=(varP 0 (fun T h=>(rdS ZeU T h).map ZAK) Zef (fun y=>.alt y (altE 2 Vd ZgU) (altE 1 Ve ZgV)) (fun _ _=>.fail))
def ZF3:Lpc:=⟨61,0,48,(fun base T=>.norm base (ZrL 0) T (Zua base)),by kernel_rfl,by kernel_rfl,(loopU ZBR [] 40 1048576 8 (keep:=ZrL) (q:=Zua) (by kernel_rfl) (Zv (s:=ZeU) (un:=ZCb) (by rfl) (fun _=>rfl) (ZW (Zn (s:=Vd) (un:=ZgU) (flat:=ZUt) (by rfl) (fun _=>rfl)) (Zn (s:=Ve) (un:=ZgV) (flat:=ZUu) (by rfl) (fun _=>rfl))) (step:=K8) (fun _=>by kernel_rfl) (fun _ _ e=>⟨_,e⟩) (ZV (Zm 2 Vd ZgU) (Zm 1 Ve ZgV)) (ZB.fail _ _)))⟩
def Zqd:=conP true ZL4 (.dat (.int .i64)) Jd
theorem Zzb:Zf Tryz.prog 61 Zqd:=Ze (calU ZBR [ZF3] 40 1048576 8 61) true (by rfl) (by rfl) (fun x r e=>(Zk _ _ _ _ _ _ _).trans ((show _=Jd x by kernel_rfl).trans e)) (.inl rfl)
def ZRP:List Sh:=[.dat (.sl tEn)]
def Zw8:Nat→List Nat:=fun c=>bif c.beq 0 then [0,3] else [2]
def ZKO:List Con:=[⟨60,Zzu,ZKG⟩,⟨47,Qs,QP⟩,⟨61,Zqd,Zzb⟩]
def Zja:StS:=⟨[(0,.sl tEn),(3,.int .i64)],[],0⟩
def ZbY:StS:=⟨[(2,.undef)],[],0⟩
def ZbZ:StS:=⟨[(2,.bool)],[],0⟩
abbrev ZaW:=((List En)×Int)
def ZHs (d:StD Zja):ZaW:=(d.1.1,d.1.2.1)
def ZIS (x:ZaW):StD Zja:=((x.1,x.2,()),())
abbrev KK:=Unit
def ZYc (d:StD ZbY):KK:=()
def Zle (x:KK):StD ZbY:=(((),()),())
abbrev KL:=Bool
def ZYd (d:StD ZbZ):KL:=(d.1.1)
def Zlf (x:KL):StD ZbZ:=((x,()),())
def ZcZ (s0:List En) (s3:Int):Option (((List En)×Int)⊕(Unit⊕Bool)):=bif decide (s3<(s0.length:Int)) then bif decide (0≤s3) then Za s0[s3.toNat]? none fun d4=>Za (Zkf (d4.2.2.2.2,())) none fun d5=>bif !d5 then some (.inr (.inr false)) else bif decide (0≤s3) then Za s0[s3.toNat]? none fun d6=>bif decide (d6.2.2.2.2.1>d6.2.2.2.2.2) then some (.inr (.inr false)) else bif decide (0≤s3) then Za s0[s3.toNat]? none fun d7=>bif decide (d7.2.2.2.1<0) then some (.inr (.inr false)) else bif decide (0≤s3) then Za s0[s3.toNat]? none fun d8=>bif decide (d8.2.2.2.1≥2147483648) then some (.inr (.inr false)) else bif decide (s3>0) then bif decide (0≤IntKind.i64.wrap (s3 - 1)) then Za s0[(IntKind.i64.wrap (s3 - 1)).toNat]? none fun d9=>bif decide (0≤s3) then Za s0[s3.toNat]? none fun d10=>Za (Jd (d9,d10,())) none fun d11=>bif decide (d11≥0) then some (.inr (.inr false)) else some (.inl (s0,IntKind.i64.wrap (s3+1))) else none else none else some (.inl (s0,IntKind.i64.wrap (s3+1))) else none else none else none else none else some (.inr (.inl PUnit.unit))
def Zul (x:ZaW):Option (ZaW⊕(KK⊕KL)):=ZcZ x.1 x.2
def Zi0 (x:ZaW):Option (KK⊕KL):=Zh Zul Zl x
def Zy5:Nat→Tm→Prog (Nat×Tm):=(varP 0 (fun T h=>(rdS Zja T h).map ZHs) Zi0 (fun y=>.alt y (altE 2 ZbY Zle) (altE 1 ZbZ Zlf)) (fun _ _=>.fail))
def ZLr:Lpc:=⟨30,0,58,(fun base T=>.norm base (Zw8 0) T (Zy5 base)),by kernel_rfl,by kernel_rfl,(loopU ZKO [] 40 1048576 8 (keep:=Zw8) (q:=Zy5) (by kernel_rfl) (Zv (s:=Zja) (un:=ZIS) (by rfl) (fun _=>rfl) (ZW (Zn (s:=ZbY) (un:=Zle) (flat:=ZYc) (by rfl) (fun _=>rfl)) (Zn (s:=ZbZ) (un:=Zlf) (flat:=ZYd) (by rfl) (fun _=>rfl))) (step:=Zul) (fun _=>by kernel_rfl) (fun _ _ e=>⟨_,e⟩) (ZV (Zm 2 ZbY Zle) (Zm 1 ZbZ Zlf)) (ZB.fail _ _)))⟩
def ZCZ (a0:List En):Option Bool:=Za (Zi0 (a0,0)) none fun d3=>Sum.elim (fun e4=>some true) (fun e4=>some e4) d3
def Znx (x:(List En)×Unit):Option Bool:=ZCZ x.1
def ZwL:=conP false ZRP (.dat .bool) Znx
theorem ZIu:Zf Tryz.prog 30 ZwL:=Ze (calU ZKO [ZLr] 40 1048576 8 30) false (by rfl) (by rfl) (fun x r e=>(Zk _ _ _ _ _ _ _).trans ((show _=Znx x by kernel_rfl).trans e)) (.inr fun _=>rfl)
def Zhz  (s0:(List En)) (i:Nat)  (d:En):Option (Unit⊕(KK⊕KL)):=
 Za (Zkf (d.2.2.2.2,())) (none) fun d5=>
  bif !d5 then
  some (.inr (.inr false))
 else bif decide (d.2.2.2.2.1>d.2.2.2.2.2) then
  some (.inr (.inr false))
 else bif decide (d.2.2.2.1<0) then
  some (.inr (.inr false))
 else bif decide (d.2.2.2.1≥2147483648) then
  some (.inr (.inr false))
 else bif decide ((i:Int)>0) then
  bif decide (0≤IntKind.i64.wrap ((i:Int) - 1)) then
  Za s0[(IntKind.i64.wrap ((i:Int) - 1)).toNat]? (none) fun d9=>
  Za (Jd (d9,d,())) (none) fun d11=>
  bif decide (d11≥0) then
  some (.inr (.inr false))
 else some (.inl ())
 else none
 else some (.inl ())
def Ztu  (s0:(List En)):Option (KK⊕KL):=
 some (.inl PUnit.unit)
abbrev ZIp  (s0:(List En)) (i:Nat) (s:Unit):ZaW:=(s0,(i:Int))
def Zno  (s0:(List En)) (s:Unit):Option (KK⊕KL):=Zp (fun i s d=>Zhz  s0 i  d) (fun s=>Ztu  s0 ) 0 s0 s
theorem ZIl  (s0:(List En)) (s:Unit) (hl:s0.length<9223372036854775807):Zi0 (s0,0)=Zno  s0 s:=by
 unfold Zi0 Zno
 refine Zs s0 (ZIp  s0) _ _ ?_ ?_ s (by unfold Zl;omega)
 ·intro i s d hi hd
  have e1:decide ((i:Int)<(s0.length:Int))=true:=dT0 (by omega)
  have e2:decide (0≤(i:Int))=true:=dT0 (by omega)
  have e3:Int.toNat (i:Int)=i:=tN0 i
  have e4:=Zq hi (Nat.le_of_lt hl)
  show ZcZ (s0) ((i:Int))=upd _ (Zhz  s0 i  d)
  unfold ZcZ Zhz
  simp only [e1,e2,e3,e4,hd,cond_true,cond_false,Zb,ZC,ZF,ZD,ZI,ZJ,ZE]
 ·intro s
  have e1:decide ((s0.length:Int)<(s0.length:Int))=false:=dF0 (by omega)
  show ZcZ (s0) ((s0.length:Int))=_
  unfold ZcZ Ztu
  rw [e1]
  rfl
def ZLZ:List Sh:=[.dat tU,.dat (.int .i64),.dat (.sl tEn)]
def ZOS:List Con:=[⟨48,ZEO,ZQW⟩,⟨30,ZwL,ZIu⟩]
def ZoW (a0:U) (a1:Int) (a2:List En):Option Bool:=Za (Zs0 (a0,45,())) none fun d4=>bif !d4 then bif decide (a1≥0) then bif decide (a1<(List.length a0.2.2.2:Int)) then bif decide ((a2.length:Int)≤20) then Za (Znx (a2,())) none fun d5=>some d5 else some false else some false else some false else some false
def Kh (x:(U×(Int×((List En)×Unit)))):Option Bool:=ZoW x.1 x.2.1 x.2.2.1
def ZhB:=conP true ZLZ (.dat .bool) Kh
theorem ZmB:Zf Tryz.prog 22 ZhB:=Ze (calU ZOS [] 40 1048576 8 22) true (by rfl) (by rfl) (fun x r e=>(Zk _ _ _ _ _ _ _).trans ((show _=Kh x by kernel_rfl).trans e)) (.inl rfl)
theorem ZR9 (most:Int) (U0:List Int) (U1:List Int) (U2:Int) (U3:List C):∀ (l:List C) (i:Nat) (s:Int),
  Zp (fun i s d=>HF most U0 U1 U2 U3 i s d) (fun s=>Zf2 most U0 U1 U2 U3 s) i l s=some (.inl (U0,U1,U2,U3)) ∨
  Zp (fun i s d=>HF most U0 U1 U2 U3 i s d) (fun s=>Zf2 most U0 U1 U2 U3 s) i l s=some (.inr (true,U0,U1,U2,U3))
 | [],i,s=>.inl rfl
 | d::r,i,s=>by
  simp only [Zp]
  have h:HF most U0 U1 U2 U3 i s d=bif decide (IntKind.i64.wrap (s+(d.2.length:Int))>most) then some (.inr (.inr (true,U0,U1,U2,U3))) else some (.inl (IntKind.i64.wrap (s+(d.2.length:Int)))):=rfl
  rw [h]
  cases decide (IntKind.i64.wrap (s+(d.2.length:Int))>most)
  ·exact ZR9 most U0 U1 U2 U3 r (i+1) _
  ·exact .inr rfl
theorem ZVy (u:U) (most:Int) (hs:sizeU u):∃ b,ZzI u most=some b∧(b=false→unitOK u):=by
 unfold ZzI Zpm
 by_cases h1:(u.2.2.2.length:Int)>4
 ·rw [dT0 h1];exact ⟨_,rfl,fun k=>nomatch k⟩
 by_cases h2:(u.1.length:Int)>10
 ·rw [dF0 h1,dT0 h2];exact ⟨_,rfl,fun k=>nomatch k⟩
 by_cases h3:(u.2.1.length:Int)>10
 ·rw [dF0 h1,dF0 h2,dT0 h3];exact ⟨_,rfl,fun k=>nomatch k⟩
 rw [dF0 h1,dF0 h2,dF0 h3]
 simp only [cond_false]
 have q:=ZGc most u.1 u.2.1 u.2.2.1 u.2.2.2 0 hs.2.2.1
 have q2:ZcD (most,0,0,u)=_:=q
 rw [q2]
 unfold Zl2
 rcases ZR9 most u.1 u.2.1 u.2.2.1 u.2.2.2 u.2.2.2 0 0 with h | h
 ·rw [h]
  simp only [Zb,Sum.elim_inl]
  obtain ⟨b,hb,hk⟩:=ZPD u hs
  have hb2:ZtA (u.1,u.2.1,u.2.2.1,u.2.2.2)=some b:=hb
  rw [hb2]
  refine ⟨!b,rfl,fun k=>hk (by simpa using k)⟩
 ·rw [h]
  exact ⟨true,rfl,fun k=>nomatch k⟩
theorem ZMH (l:List En) (hl:l.length<9223372036854775807):ZCZ l=some (ZAR l):=by
 unfold ZCZ
 rw [ZIl l () hl]
 unfold Zno
 rw [Vo (p:=Zwz l) (o:=.inr false) l 0 fun j d hd=>?_]
 ·unfold ZAR
  cases allIx (Zwz l) 0 l<;>rfl
 ·have hj:j<l.length:=(List.getElem?_eq_some_iff.1 hd).1
  unfold Zhz Zkf Jd Zwz entB
  simp only [ZPC,Zlo,Zb,Nat.zero_add]
  cases isB d.2.2.2.2
  ·rfl
  by_cases h1:d.2.2.2.2.1>d.2.2.2.2.2
  ·rw [dT0 h1,show Zd d.2.2.2.2=true from ZnB h1];rfl
  rw [dF0 h1,show Zd d.2.2.2.2=false from Z8 (Int.not_lt.1 h1)]
  by_cases h2:d.2.2.2.1<0
  ·rw [dT0 h2];rfl
  by_cases h3:d.2.2.2.1≥2147483648
  ·rw [dF0 h2,dT0 h3];rfl
  rw [dF0 h2,dF0 h3]
  by_cases h4:j>0
  ·rw [show decide ((j:Int)>0)=true from dT0 (by omega),dT0 h4]
   have e5:IntKind.i64.wrap ((j:Int) - 1)=((j - 1:Nat):Int):=by rw [Znt (by omega) (by omega)];omega
   rw [e5,show decide (0≤((j - 1:Nat):Int))=true from dT0 (by omega),tN0]
   obtain ⟨p,hp⟩:∃ p,l[j - 1]? = some p:=⟨l[j - 1]'(by omega),List.getElem?_eq_getElem _⟩
   rw [hp]
   simp only [cond_true,cond_false,Zb,Option.elim_some,Bool.not_true,Bool.not_false,Bool.true_and]
   cases decide (ordI p d≥0)<;>rfl
  ·rw [show decide ((j:Int)>0)=false from dF0 (by omega),dF0 h4];rfl
theorem Zg6 (u:U) (t:Int) (l:List En) (hs:sizeU u) (hl:l.length<9223372036854775807):∃ b,ZoW u t l=some b∧(b=true→askedOK u t l):=by
 unfold ZoW Zs0 Znx
 obtain ⟨b,hb,hk⟩:=ZVy u 45 hs
 simp only [hb,Zb,ZMH l hl]
 cases b
 case true=>exact ⟨_,rfl,fun k=>nomatch k⟩
 have hu:=hk rfl
 by_cases h1:t≥0
 case neg=>rw [dF0 h1];exact ⟨_,rfl,fun k=>nomatch k⟩
 by_cases h2:t<(u.2.2.2.length:Int)
 case neg=>rw [dT0 h1,dF0 h2];exact ⟨_,rfl,fun k=>nomatch k⟩
 by_cases h3:(l.length:Int)≤20
 ·rw [dT0 h1,dT0 h2,dT0 h3]
  exact ⟨ZAR l,rfl,fun k=>⟨hu,⟨h1,h2⟩,by omega,ZPw k⟩⟩
 ·rw [dT0 h1,dT0 h2,dF0 h3]
  exact ⟨_,rfl,fun k=>nomatch k⟩
def ZRV:List Sh:=[.dat tI,.dat tI]
def ZVY:List Con:=[⟨47,Qs,QP⟩]
def Zqf:=conP true ZRV (.dat .bool) JX
theorem ZxP:Zf Tryz.prog 66 Zqf:=Ze (calU ZVY [] 40 1048576 8 66) true (by rfl) (by rfl) (fun x r e=>(Zk _ _ _ _ _ _ _).trans ((show _=JX x by kernel_rfl).trans e)) (.inl rfl)
theorem Zfe {α Y:Type} {f:Nat→Unit→α→Option (Unit⊕Y)} {fin:Unit→Option Y}:∀ (l:List α) (i:Nat),(∀ j d,l[j]? = some d→f (i+j) () d=some (.inl ()))→Zp f fin i l ()=fin ()
 | [],_,_=>rfl
 | d::r,i,h=>by
  rw [Qq (by have:=h 0 d rfl;rwa [Nat.add_zero] at this)]
  exact Zfe r (i+1) fun j d hd=>by rw [Nat.add_right_comm];exact h (j+1) d hd
theorem ZI5 {x y:I} (h:Zd x=true):leqB x y=true:=by unfold leqB;rw [h];rfl
theorem ZDn {x y z w:I} (h:leqB x z=true) (k:leqB y w=true):leqB (mSpan x y) (mSpan z w)=true:=by
 rw [QE] at *
 unfold sub at *
 simp only [mSpan,iSpan,mx,mn,nn]
 (repeat' split)<;>simp only<;>omega
theorem Zwb {x y z w:I} (h:leqB x z=true) (k:leqB y w=true):leqB (rJoin x y) (rJoin z w)=true:=by
 have e1:=h
 have e2:=k
 rw [QE] at h k
 unfold rJoin
 cases a:Zd x<;>cases b:Zd y<;>cases c:Zd z<;>cases d:Zd w<;>simp only [Bool.false_eq_true,if_true,if_false]<;>rw [QE]<;>unfold sub at*<;>
  simp only [Zd,decide_eq_true_eq,decide_eq_false_iff_not] at a b c d<;>(try simp only [mx,mn,nn])<;>first | omega | ((repeat' split)<;>omega)
theorem ZSU {x y w:I} (h:leqB x w=true) (k:leqB y w=true):leqB (Zg x y) w=true:=by
 rw [QE] at h k
 unfold Zg
 cases a:Zd x<;>cases b:Zd y<;>simp only [Bool.false_eq_true,if_true,if_false]<;>rw [QE]<;>unfold sub at*<;>
  simp only [Zd,decide_eq_true_eq,decide_eq_false_iff_not] at a b<;>(try simp only [mx,mn,nn])<;>first | omega | ((repeat' split)<;>omega)
theorem ZSW (x y:I):leqB x (Zg x y)=true:=by
 unfold Zg
 cases a:Zd x<;>cases b:Zd y<;>simp only [Bool.false_eq_true,if_true,if_false]<;>rw [QE]<;>unfold sub <;>
  simp only [Zd,decide_eq_true_eq,decide_eq_false_iff_not] at a b<;>(try simp only [mx,mn,nn])<;>first | omega | ((repeat' split)<;>omega)
theorem Z1y (x y:I):leqB y (Zg x y)=true:=by
 unfold Zg
 cases a:Zd x<;>cases b:Zd y<;>simp only [Bool.false_eq_true,if_true,if_false]<;>rw [QE]<;>unfold sub <;>
  simp only [Zd,decide_eq_true_eq,decide_eq_false_iff_not] at a b<;>(try simp only [mx,mn,nn])<;>first | omega | ((repeat' split)<;>omega)
theorem ZOE {p:En→Bool} {w:I}:∀ {l:List En} {v:I},leqB v w=true→(∀ e∈l,p e=true→leqB e.2.2.2.2 w=true)→leqB (seenS p v l) w=true
 | [],v,hv,_=>hv
 | e::r,v,hv,h=>by
  unfold seenS
  rw [List.foldl_cons]
  refine ZOE (l:=r) ?_ fun x hx=>h x (List.mem_cons_of_mem _ hx)
  split
  ·rename_i hp;exact ZSU hv (h e (List.mem_cons_self ..) hp)
  ·exact hv
theorem ZXG {p:En→Bool}:∀ {l:List En} {v:I},leqB v (seenS p v l)=true
 | [],v=>ZdP v
 | e::r,v=>by
  unfold seenS
  rw [List.foldl_cons]
  refine KH ?_ (ZXG (l:=r))
  split
  ·exact ZSW _ _
  ·exact ZdP v
theorem ZOC {p:En→Bool}:∀ {l:List En} {v:I} {e:En},e∈l→p e=true→leqB e.2.2.2.2 (seenS p v l)=true
 | d::r,v,e,he,hp=>by
  unfold seenS
  rw [List.foldl_cons]
  rcases List.mem_cons.1 he with rfl | he
  ·rw [if_pos hp];exact KH (Z1y _ _) (ZXG (l:=r))
  ·exact ZOC (l:=r) he hp
def keyEq (e d:En):Prop:=d.1=e.1∧d.2.1=e.2.1∧d.2.2.1=e.2.2.1∧d.2.2.2.1=e.2.2.2.1
def leT (a c:List En):Prop:=∀ e∈a,∃ d∈c,keyEq e d∧leqB e.2.2.2.2 d.2.2.2.2=true
theorem Z2D {a h k:Int} (s:subB k h) (e:apI a h=true):apI a k=true:=by
 unfold apI at *
 rw [beq_iff_eq] at *
 refine Nat.eq_of_testBit_eq fun i=>?_
 have:=congrArg (fun n=>n.testBit i) e
 simp only [Nat.testBit_and,Nat.zero_testBit] at this ⊢
 cases ha:a.toNat.testBit i
 ·rfl
 ·rw [ha,Bool.true_and] at this
  cases hk:k.toNat.testBit i
  ·rfl
  ·rw [s i hk] at this;cases this
theorem ZPX {t:Int} {ar:Bool} {g h k:Int} {e d:En} (q:keyEq e d) (s:subB k h) (p:seesB t ar g h e=true):seesB t ar g k d=true:=by
 unfold seesB at *
 obtain ⟨q1,q2,q3,q4⟩:=q
 rw [q1,q2,q3,q4]
 simp only [Bool.and_eq_true] at p ⊢
 exact ⟨p.1,p.2.1,p.2.2.1,Z2D s p.2.2.2⟩
theorem ZMZ {a c:List En} {t:Int} {ar:Bool} {g h k:Int} (q:leT a c) (s:subB k h):leqB (seenV a t ar g h) (seenV c t ar g k)=true:=
 ZOE (ZI5 (by decide)) fun e he hp=>by
  obtain ⟨d,hd,h1,h2⟩:=q e he
  exact KH h2 (ZOC hd (ZPX h1 s hp))
theorem ZYh {a c:List En} {t:Int} {ar:Bool} {g h k m:Int} (q:leT a c) (s:subB k h):leqB (gainV a t ar g h m) (gainV c t ar g k m)=true:=
 ZOE (ZI5 (by decide)) fun e he hp=>by
  obtain ⟨d,hd,h1,h2⟩:=q e he
  simp only [Bool.and_eq_true] at hp
  refine KH h2 (ZOC hd ?_)
  simp only [Bool.and_eq_true]
  refine ⟨ZPX h1 s hp.1,?_⟩
  rw [h1.2.2.2];exact hp.2
def ZQt:List Sh:=[.dat (.sl tI),.dat (.int .i64)]
def ZTX:List Con:=[⟨95,Vk,Za3⟩]
def ZoV:=conP true ZQt (.dat tI) YB
theorem ZuQ:Zf Tryz.prog 94 ZoV:=Ze (calU ZTX [] 40 1048576 8 94) true (by rfl) (by rfl) (fun x r e=>(Zk _ _ _ _ _ _ _).trans ((show _=YB x by kernel_rfl).trans e)) (.inl rfl)
def ZNL:List Sh:=[.dat (.sl tI),.dat (.sl tI)]
def ZtI:Nat→List Nat:=fun c=>bif c.beq 0 then [0,1,5] else [4]
def ZFe:List Con:=[⟨94,ZoV,ZuQ⟩,⟨66,Zqf,ZxP⟩]
def Zgd:StS:=⟨[(0,.sl tI),(1,.sl tI),(5,.int .i64)],[],0⟩
def Wb:StS:=⟨[(4,.undef)],[],0⟩
def Wc:StS:=⟨[(4,.bool)],[],0⟩
abbrev Hu:=((List I)×(List I)×Int)
def ZCA:StD Zgd→Hu:=fun ((a,b,c,_),_)=>(a,b,c)
def ZEk:Hu→StD Zgd:=fun (a,b,c)=>((a,b,c,()),())
abbrev Jq:=Unit
def ZUZ (d:StD Wb):Jq:=()
def ZiA (x:Jq):StD Wb:=(((),()),())
abbrev Jr:=Bool
def ZU0 (d:StD Wc):Jr:=(d.1.1)
def ZiB (x:Jr):StD Wc:=((x,()),())
def W9 (s0 s1:List I) (s5:Int):Option (((List I)×(List I)×Int)⊕(Unit⊕Bool)):=bif decide (s5<(s0.length:Int)) then bif decide (0≤s5) then Za s0[s5.toNat]? none fun d5=>Za (YB (s1,s5,())) none fun d6=>Za (JX (d5,d6,())) none fun d7=>bif !d7 then some (.inr (.inr false)) else some (.inl (s0,s1,IntKind.i64.wrap (s5+1))) else none else some (.inr (.inl PUnit.unit))
def Zra:Hu→Option (Hu⊕(Jq⊕Jr)):=fun (a,b,c)=>W9 a b c
def ZfM (x:Hu):Option (Jq⊕Jr):=Zh Zra Zl x
def Zvq:Nat→Tm→Prog (Nat×Tm):=(varP 0 (fun T h=>(rdS Zgd T h).map ZCA) ZfM (fun y=>.alt y (altE 2 Wb ZiA) (altE 1 Wc ZiB)) (fun _ _=>.fail))
def ZHS:Lpc:=⟨59,0,21,(fun base T=>.norm base (ZtI 0) T (Zvq base)),by kernel_rfl,by kernel_rfl,(loopU ZFe [] 40 1048576 8 (keep:=ZtI) (q:=Zvq) (by kernel_rfl) (Zv (s:=Zgd) (un:=ZEk) (by rfl) (fun _=>rfl) (ZW (Zn (s:=Wb) (un:=ZiA) (flat:=ZUZ) (by rfl) (fun _=>rfl)) (Zn (s:=Wc) (un:=ZiB) (flat:=ZU0) (by rfl) (fun _=>rfl))) (step:=Zra) (fun _=>by kernel_rfl) (fun _ _ e=>⟨_,e⟩) (ZV (Zm 2 Wb ZiA) (Zm 1 Wc ZiB)) (ZB.fail _ _)))⟩
def ZmY (a0 a1:List I):Option Bool:=Za (ZfM (a0,a1,0)) none fun d4=>Sum.elim (fun e5=>some true) (fun e5=>some e5) d4
def Zfn (x:((List I)×((List I)×Unit))):Option Bool:=ZmY x.1 x.2.1
def ZAq:=conP true ZNL (.dat .bool) Zfn
theorem ZOI:Zf Tryz.prog 59 ZAq:=Ze (calU ZFe [ZHS] 40 1048576 8 59) true (by rfl) (by rfl) (fun x r e=>(Zk _ _ _ _ _ _ _).trans ((show _=Zfn x by kernel_rfl).trans e)) (.inl rfl)
def WS (s1 s0:List I) (i:Nat)  (d:I):Option (Unit⊕(Jq⊕Jr)):=
 Za (YB (s1,(i:Int),())) (none) fun d6=>
  Za (JX (d,d6,())) (none) fun d7=>
  bif !d7 then
  some (.inr (.inr false))
 else some (.inl ())
def Zqn (s1 s0:List I):Option (Jq⊕Jr):=
 some (.inl PUnit.unit)
abbrev ZDR (s1 s0:List I) (i:Nat) (s:Unit):Hu:=(s0,s1,(i:Int))
def ZeK (s1 s0:List I) (s:Unit):Option (Jq⊕Jr):=Zp (fun i s d=>WS s1 s0 i  d) (fun s=>Zqn s1 s0 ) 0 s0 s
theorem ZqU (s1 s0:List I) (s:Unit) (hl:s0.length<9223372036854775807):ZfM (s0,s1,0)=ZeK s1 s0 s:=by
 unfold ZfM ZeK
 refine Zs s0 (ZDR s1 s0) _ _ ?_ ?_ s (by unfold Zl;omega)
 ·intro i s d hi hd
  have e1:decide ((i:Int)<(s0.length:Int))=true:=dT0 (by omega)
  have e2:decide (0≤(i:Int))=true:=dT0 (by omega)
  have e3:Int.toNat (i:Int)=i:=tN0 i
  have e4:=Zq hi (Nat.le_of_lt hl)
  show W9 (s0) (s1) ((i:Int))=upd _ (WS s1 s0 i  d)
  unfold W9 WS
  simp only [e1,e2,e3,e4,hd,cond_true,cond_false,Zb,ZC,ZF,ZD,ZI,ZJ,ZE]
 ·intro s
  have e1:decide ((s0.length:Int)<(s0.length:Int))=false:=dF0 (by omega)
  show W9 (s0) (s1) ((s0.length:Int))=_
  unfold W9 Zqn
  rw [e1]
  rfl
def ZQs:List Sh:=[.dat tE,.dat tE]
def ZTW:List Con:=[⟨59,ZAq,ZOI⟩]
def ZoB (a0 a1:E):Option Bool:=bif !a0.1 then some true else bif a1.1 then Za (Zfn (a0.2.1,a1.2.1,())) none fun d3=>bif d3 then Za (Zfn (a0.2.2.1,a1.2.2.1,())) none fun d4=>bif d4 then Za (Zfn (a0.2.2.2.1,a1.2.2.2.1,())) none fun d5=>bif d5 then bif IntKind.i64.wrap (↑(BitVec.ofInt IntKind.i64.bits a1.2.2.2.2.1 &&& ~~~BitVec.ofInt IntKind.i64.bits a0.2.2.2.2.1).toNat:Int)==0 then some (IntKind.i64.wrap (↑(BitVec.ofInt IntKind.i64.bits a0.2.2.2.2.2 &&& ~~~BitVec.ofInt IntKind.i64.bits a1.2.2.2.2.2).toNat:Int)==0) else some false else some false else some false else some false else some false
def YA (x:E×(E×Unit)):Option Bool:=ZoB x.1 x.2.1
def Zuz:=conP true ZQs (.dat .bool) YA
theorem ZE6:Zf Tryz.prog 29 Zuz:=Ze (calU ZTW [] 40 1048576 8 29) true (by rfl) (by rfl) (fun x r e=>(Zk _ _ _ _ _ _ _).trans ((show _=YA x by kernel_rfl).trans e)) (.inl rfl)
theorem ZA0 {a b:List I} {i:Nat} {v w:I} (h:leR a b) (k:leqB v w=true):leR (a.set i v) (b.set i w):=by
 refine ⟨by simp [h.1],fun j x y hx hy=>?_⟩
 by_cases e:i=j
 ·subst e
  have h1:i<a.length:=by have:=(List.getElem?_eq_some_iff.1 hx).1;simpa using this
  rw [List.getElem?_set_self h1] at hx
  rw [List.getElem?_set_self (by rw [← h.1];exact h1)] at hy
  cases hx;cases hy;exact k
 ·rw [List.getElem?_set_ne e] at hx hy
  exact h.2 j x y hx hy
theorem ZLu (a:List I):leR a a:=⟨rfl,fun i x y hx hy=>by rw [hx] at hy;cases hy;exact ZdP x⟩
theorem ZPt {a c:List En} {t:Int} {ar:Bool} {h k m:Int} {x y:List I} (q:leT a c) (s:subB k h) (r:leR x y):leR (gmap a t ar h m x) (gmap c t ar k m y):=by
 refine ⟨by simp [gmap,r.1],fun i u v hu hv=>?_⟩
 unfold gmap at hu hv
 rw [List.getElem?_mapIdx] at hu hv
 cases e1:x[i]? with
 | none=>rw [e1] at hu;cases hu
 | some u1=>
  cases e2:y[i]? with
  | none=>rw [e2] at hv;cases hv
  | some v1=>
   rw [e1] at hu;rw [e2] at hv
   cases hu;cases hv
   exact Zwb (r.2 i u1 v1 e1 e2) (ZYh q s)
theorem KG (y:E):leO offE y:=fun h=>nomatch h
theorem Zjz {x y:E} {T:Int} {v w:I} (h:leE x y) (k:leqB v w=true):leE (setE x T v) (setE y T w):=⟨h.on,ZA0 h.v k,h.g,h.a,h.must,h.may⟩
theorem Z1T (r:Int) {x y z w:I} (hx:Zd x=false) (hy:Zd y=false) (h:leqB x z=true) (k:leqB y w=true) :
  leqB (refI r x y).1 (refI r z w).1=true∧leqB (refI r x y).2 (refI r z w).2=true:=by
 obtain ⟨h1,hz⟩:=ZdW h hx
 obtain ⟨k1,hw⟩:=ZdW k hy
 obtain ⟨a,b⟩:=x
 obtain ⟨c,d⟩:=y
 obtain ⟨a',b'⟩:=z
 obtain ⟨c',d'⟩:=w
 have l1:a≤b:=ZS hx
 have l2:c≤d:=ZS hy
 have l3:a'≤b':=ZS hz
 have l4:c'≤d':=ZS hw
 unfold sub at h1 k1
 simp only at h1 k1
 have nnl:∀ u:I×I,leqB (nn,nn).1 u.1=true∧leqB (nn,nn).2 u.2=true:=fun u=>⟨ZI5 (by decide),ZI5 (by decide)⟩
 have fin:∀ {p q u v s t m n:Int},(p>q∨(s≤p∧q≤t))→(u>v∨(m≤u∧v≤n))→leqB ((p,q),(u,v)).1 ((s,t),(m,n)).1=true∧leqB ((p,q),(u,v)).2 ((s,t),(m,n)).2=true:=fun e1 e2=>by
  rw [QE,QE];exact ⟨e1,e2⟩
 by_cases r1:r=1
 ·subst r1
  rw [ZOt l1 l2,ZOt l3 l4]
  by_cases q:a<d
  ·rw [if_pos q,if_pos (by omega)]
   refine fin ?_ ?_<;>simp only [mx,mn]<;>(repeat' split)<;>omega
  ·rw [if_neg q];exact nnl _
 by_cases r2:r=2
 ·subst r2
  rw [ZOu l1 l2,ZOu l3 l4]
  by_cases q:a≤d
  ·rw [if_pos q,if_pos (by omega)]
   refine fin ?_ ?_<;>simp only [mx,mn]<;>(repeat' split)<;>omega
  ·rw [if_neg q];exact nnl _
 by_cases r5:r=5
 ·subst r5
  rw [ZOx l1 l2,ZOx l3 l4]
  by_cases q:c≤b
  ·rw [if_pos q,if_pos (by omega)]
   refine fin ?_ ?_<;>simp only [mx,mn]<;>(repeat' split)<;>omega
  ·rw [if_neg q];exact nnl _
 by_cases r6:r=6
 ·subst r6
  rw [ZOy l1 l2,ZOy l3 l4]
  by_cases q:c<b
  ·rw [if_pos q,if_pos (by omega)]
   refine fin ?_ ?_<;>simp only [mx,mn]<;>(repeat' split)<;>omega
  ·rw [if_neg q];exact nnl _
 by_cases r3:r=3
 ·subst r3
  rw [ZOv l1 l2,ZOv l3 l4]
  by_cases q:a≤d∧c≤b
  ·rw [if_pos q,if_pos (by omega)]
   refine fin ?_ ?_<;>simp only [mx,mn]<;>(repeat' split)<;>omega
  ·rw [if_neg q];exact nnl _
 by_cases r4:r=4
 ·subst r4
  rw [ZOw l1 l2,ZOw l3 l4]
  by_cases q:a=b∧c=d∧a=c
  ·rw [if_pos q];exact nnl _
  ·rw [if_neg q,if_neg (show ¬ (a'=b'∧c'=d'∧a'=c') by omega)]
   refine fin ?_ ?_<;>(repeat' split)<;>omega
 ·have:refI r (a,b) (c,d)=(nn,nn):=by unfold refI;simp only [r1,r2,r3,r4,r5,r6,if_false]
  rw [this];exact nnl _
theorem ZXS {a b m:Int} (ha:okB a) (hb:okB b) (s:subB a b):subB (woI a m) (woI b m):=fun i h=>by
 rw [(ZpX a m ha).2] at h
 rw [(ZpX b m hb).2]
 simp only [Bool.and_eq_true] at h ⊢
 exact ⟨s i h.1,h.2⟩
theorem ZXQ {a b m:Int} (ha:okB a) (hb:okB b) (s:subB a b):subB (wiI a m) (wiI b m):=fun i h=>by
 rw [(ZpW a m ha).2] at h
 rw [(ZpW b m hb).2]
 simp only [Bool.or_eq_true] at h ⊢
 exact h.imp (s i) id
theorem Zwv {a b m:Int} (s:subB a b) (h:tb a m=true):tb b m=true:=by
 unfold tb at *
 simp only [Bool.and_eq_true] at h ⊢
 exact ⟨h.1,s _ h.2⟩
theorem ZIP {a b:Int} (ha:okB a) (hb:okB b) (s:subB a b):(IntKind.i64.wrap ((BitVec.ofInt IntKind.i64.bits a &&& ~~~BitVec.ofInt IntKind.i64.bits b).toNat:Int)==0)=true:=by
 unfold okB at *
 obtain ⟨r,h1,h2,h3⟩:=ZKY (a:=a.toNat) (b:=b.toNat) (by omega) (by omega)
 rw [show ((a.toNat:Nat):Int)=a by omega,show ((b.toNat:Nat):Int)=b by omega] at h1
 rw [h1]
 have:r=0:=Nat.eq_of_testBit_eq fun i=>by
  rw [h3,Nat.zero_testBit]
  cases q:a.toNat.testBit i
  ·rfl
  ·rw [s i q];rfl
 subst this
 rfl
def ZL5:List Sh:=[.dat (.sl tEn),.dat tEn]
def ZrM:Nat→List Nat:=fun c=>bif c.beq 0 then [0,3,6] else [0,3,6]
def ZBS:List Con:=[⟨61,Zqd,Zzb⟩]
def ZeV:StS:=⟨[(0,.sl tEn),(3,.ptr 0 0),(6,.int .i64)],[(0,.box [.int .i64,.bool,.int .i64,.int .i64,.int .i64,.int .i64])],1⟩
def Vf:StS:=⟨[(0,.sl tEn),(3,.ptr 0 0),(6,.int .i64)],[(0,.box [.int .i64,.bool,.int .i64,.int .i64,.int .i64,.int .i64])],1⟩
def ZAL:StD ZeV→YS:=fun ((a,_,b,_),((c,d,e,f,g,h,_),_))=>(a,b,c,d,e,f,g,h)
def ZCc:YS→StD ZeV:=fun (a,b,c,d,e,f,g,h)=>((a,(),b,()),((c,d,e,f,g,h,()),()))
def ZUv:StD Vf→Q2:=fun ((a,_,b,_),((c,d,e,f,g,h,_),_))=>(a,b,c,d,e,f,g,h)
def ZgW:Q2→StD Vf:=fun (a,b,c,d,e,f,g,h)=>((a,(),b,()),((c,d,e,f,g,h,()),()))
def Zub:Nat→Tm→Prog (Nat×Tm):=(varP 0 (fun T h=>(rdS ZeV T h).map ZAL) YF (altE 2 Vf ZgW) (fun _ _=>.fail))
def ZF4:Lpc:=⟨58,0,36,(fun base T=>.norm base (ZrM 0) T (Zub base)),by kernel_rfl,by kernel_rfl,(loopU ZBS [] 40 1048576 8 (keep:=ZrM) (q:=Zub) (by kernel_rfl) (Zv (s:=ZeV) (un:=ZCc) (by rfl) (fun _=>rfl) (Zn (s:=Vf) (un:=ZgW) (flat:=ZUv) (by rfl) (fun _=>rfl)) (step:=ZpQ) (fun _=>by kernel_rfl) (fun _ _ e=>⟨_,e⟩) (Zm 2 Vf ZgW) (ZB.fail _ _)))⟩
def Zmu:=conP false ZL5 (.tup [.dat (.int .i64),.dat .bool]) Je
theorem Zq1:Zf Tryz.prog 58 Zmu:=Ze (calU ZBS [ZF4] 40 1048576 8 58) false (by rfl) (by rfl) (fun x r e=>(Zk _ _ _ _ _ _ _).trans ((show _=Je x by kernel_rfl).trans e)) (.inr fun _=>rfl)
def ZQu:List Sh:=[.dat (.sl tEn),.dat (.sl tEn)]
def Zva:Nat→List Nat:=fun c=>bif c.beq 0 then [0,1,5] else [0]
def ZII:List Con:=[⟨47,Qs,QP⟩,⟨58,Zmu,Zq1⟩,⟨19,Kn,YD⟩]
def ZhX:StS:=⟨[(0,.row 0),(1,.sl tEn),(5,.int .i64)],[(0,.row tEn)],1⟩
def ZaF:StS:=⟨[(0,.row 0)],[(0,.row tEn)],1⟩
def ZFJ:StD ZhX→VG:=fun ((_,a,b,_),(c,_))=>(a,b,c)
def ZGP:VG→StD ZhX:=fun (a,b,c)=>(((),a,b,()),(c,()))
def ZWN (d:StD ZaF):J7:=(d.2.1)
def Zj1 (x:J7):StD ZaF:=(((),()),(x,()))
def Zxv:Nat→Tm→Prog (Nat×Tm):=(varP 0 (fun T h=>(rdS ZhX T h).map ZFJ) Zhk (altE 2 ZaF Zj1) (fun _ _=>.fail))
def ZJE:Lpc:=⟨28,0,66,(fun base T=>.norm base (Zva 0) T (Zxv base)),by kernel_rfl,by kernel_rfl,(loopU ZII [] 40 1048576 8 (keep:=Zva) (q:=Zxv) (by kernel_rfl) (Zv (s:=ZhX) (un:=ZGP) (by rfl) (fun _=>rfl) (Zn (s:=ZaF) (un:=Zj1) (flat:=ZWN) (by rfl) (fun _=>rfl)) (step:=Zr5) (fun _=>by kernel_rfl) (fun _ _ e=>⟨_,e⟩) (Zm 2 ZaF Zj1) (ZB.fail _ _)))⟩
def Zlj:=conR false ZQu tEn Kx
theorem Zo1:Zf Tryz.prog 28 Zlj:=ZhA (calU ZII [ZJE] 40 1048576 8 28) false (by rfl) (fun x r e=>(Zpp _ _ _ _ _ _ _).trans ((show _=Kx x by kernel_rfl).trans e)) (.inr (by rfl))
theorem ZsG {a:Ky}:¬ ltK a a:=by unfold ltK;omega
def tget (l:List En) (k:Ky):Option I:=(l.find? fun e=>ky e==k).map vl
theorem JT (d:En) (r:List En) (k:Ky):tget (d::r) k=if ky d=k then some (vl d) else tget r k:=by
 unfold tget
 rw [List.find?_cons]
 by_cases h:ky d=k
 ·rw [if_pos h,show (ky d==k)=true from beq_iff_eq.2 h];rfl
 ·rw [if_neg h,show (ky d==k)=false from beq_eq_false_iff_ne.2 h]
theorem Z2b (k:Ky):tget [] k=none:=rfl
theorem ZIQ {l:List En} {k:Ky} (h:∀ d∈l,ky d≠k):tget l k=none:=by
 unfold tget
 rw [List.find?_eq_none.2 fun d hd=>by rw [beq_iff_eq];exact h d hd];rfl
theorem ZsU {l:List En} {k:Ky} {v:I} (h:tget l k=some v):∃ d∈l,ky d=k∧vl d=v:=by
 unfold tget at h
 obtain ⟨d,h1,h2⟩:=Option.map_eq_some_iff.1 h
 exact ⟨d,List.mem_of_find?_eq_some h1,beq_iff_eq.1 (List.find?_some (p:=fun e=>ky e==k) h1),h2⟩
theorem ZLA {l:List En} (hs:srt l) {d:En} (hd:d∈l):tget l (ky d)=some (vl d):=by
 induction l with
 | nil=>cases hd
 | cons x r ih=>
  rw [JT]
  have h:=List.pairwise_cons.1 hs
  rcases List.mem_cons.1 hd with rfl | hd
  ·rw [if_pos rfl]
  ·rw [if_neg (fun e=>ZsG (e ▸ h.1 d hd)),ih h.2 hd]
def optV (f:I→I→I) (o:Option I) (v:I):I:=match o with | some u=>f u v | none=>v
theorem ZXs {f:I→I→I} {e:En}:∀ {l:List En},srt l→∀ k,tget (pinT f e l) k=if ky e=k then some (optV f (tget l k) (vl e)) else tget l k
 | [],_,k=>by unfold pinT;rw [JT,Z2b];rfl
 | d::r,hs,k=>by
  have h:=List.pairwise_cons.1 hs
  unfold pinT
  split
  ·rename_i hc
   rw [JT,ZXs h.2,JT]
   by_cases hd:ky d=k
   ·rw [if_pos hd,if_pos hd,if_neg (fun e2=>ZsG (by rw [ZtZ,hd,e2] at hc;exact hc))]
   ·rw [if_neg hd,if_neg hd]
  ·rename_i hc
   split
   ·rename_i hz
    rw [ZtY] at hz
    rw [JT,JT,ZZU,hz]
    by_cases he:ky e=k
    ·rw [if_pos he,if_pos he,if_pos he];rfl
    ·rw [if_neg he,if_neg he,if_neg he]
   ·rename_i hz
    rw [ZtZ] at hc
    rw [ZtY] at hz
    have hed:=ZXd hc hz
    rw [JT]
    by_cases he:ky e=k
    ·rw [if_pos he,if_pos he,ZIQ]
     ·rfl
     ·intro x hx q
      rcases List.mem_cons.1 hx with rfl | hx
      ·exact hz (q.trans he.symm)
      ·exact ZsG (by have:=ZtW hed (h.1 x hx);rwa [q,he] at this)
    ·rw [if_neg he,if_neg he]
def oneO (f:I→I→I) (k:Ky) (o:Option I) (e:En):Option I:=if Zd (vl e) then o else if ky e=k then some (optV f o (vl e)) else o
theorem Z3x {f:I→I→I} {l:List En} (hs:srt l) (e:En) (k:Ky):tget (stpT f l e) k=oneO f k (tget l k) e:=by
 unfold stpT oneO
 split
 ·rfl
 ·exact ZXs hs k
theorem ZNy {f:I→I→I} (k:Ky):∀ {es l:List En},srt l→tget (addT f l es) k=es.foldl (oneO f k) (tget l k)
 | [],l,_=>rfl
 | e::r,l,hs=>by
  show tget (addT f (stpT f l e) r) k=r.foldl (oneO f k) (oneO f k (tget l k) e)
  rw [ZNy k (es:=r) (ZD9 hs),Z3x hs]
theorem ZPr {f:I→I→I} {k:Ky}:∀ {es:List En} {o:Option I},(∀ e∈es,ky e≠k)→es.foldl (oneO f k) o=o
 | [],_,_=>rfl
 | e::r,o,h=>by
  rw [List.foldl_cons]
  have:oneO f k o e=o:=by
   unfold oneO
   rw [if_neg (h e (List.mem_cons_self ..))]
   split<;>rfl
  rw [this]
  exact ZPr fun x hx=>h x (List.mem_cons_of_mem _ hx)
def bothO (f:I→I→I) (o p:Option I):Option I:=match p with | none=>o | some v=>some (optV f o v)
theorem Zg2 {f:I→I→I} (k:Ky):∀ {b a:List En},srt b→(∀ x∈b,entOK x)→srt a→tget (addT f a b) k=bothO f (tget a k) (tget b k)
 | [],a,_,_,_=>rfl
 | d::r,a,hb,hk,ha=>by
  have h:=List.pairwise_cons.1 hb
  have kd:=hk d (List.mem_cons_self ..)
  rw [ZNy k ha,List.foldl_cons,JT]
  by_cases e:ky d=k
  ·rw [if_pos e,ZPr (fun x hx q=>ZsG (by have:=h.1 x hx;rwa [q,e] at this))]
   unfold oneO
   rw [if_neg (by rw [show Zd (vl d)=false from kd.n];decide),if_pos e];rfl
  ·rw [if_neg e]
   have:oneO f k (tget a k) d=tget a k:=by unfold oneO;rw [if_neg e];split<;>rfl
   rw [this,← ZNy k ha]
   exact Zg2 k h.2 (fun x hx=>hk x (List.mem_cons_of_mem _ hx)) ha
def leG (a b:List En):Prop:=∀ k u,tget a k=some u→∃ v,tget b k=some v∧leqB u v=true
theorem Z59 {a b:List En} (hb:srt b) (ha:srt a) (h:leG a b):leT a b:=fun e he=>by
 obtain ⟨v,h1,h2⟩:=h (ky e) (vl e) (ZLA ha he)
 obtain ⟨d,hd,hk,rfl⟩:=ZsU h1
 simp only [ky,Prod.mk.injEq] at hk
 exact ⟨d,hd,hk,h2⟩
def upF (f:I→I→I):Prop:=∀ u v,isB u=true→isB v=true→leqB u (f u v)=true∧leqB v (f u v)=true
theorem Zns:upF Zg:=fun u v _ _=>⟨ZHI u v,ZXa u v⟩
theorem ZqB {l:List En} (h:∀ x∈l,entOK x) {k:Ky} {u:I} (hu:tget l k=some u):isB u=true∧Zd u=false:=by
 obtain ⟨d,hd,_,rfl⟩:=ZsU hu
 exact ⟨(h d hd).v,(h d hd).n⟩
theorem Z4V {f:I→I→I} (hf:upF f) {a b:List En} (ha:tabOK a) (hb:tabOK b):leG a (addT f a b):=fun k u hu=>by
 rw [Zg2 k hb.srt hb.e ha.srt,hu]
 cases hv:tget b k with
 | none=>exact ⟨u,rfl,Zpe u⟩
 | some v=>exact ⟨_,rfl,(hf u v (ZqB ha.e hu).1 (ZqB hb.e hv).1).1⟩
theorem tabOK.a {l:List En} (h:tabOK l):∀ x∈l,okA x:=fun x hx=>(h.e x hx).a
section
open Go.Proofs
variable {u:U} {t:Int} {a b:E}
theorem Z13 {a b:E} (ha:a.1=true) (hb:b.1=true) (h:sameE a b=true):a=b:=by
 unfold sameE at h
 rw [ha,hb] at h
 simp only [Bool.and_true,cond_true,Bool.and_eq_true,decide_eq_true_eq,beq_iff_eq] at h
 obtain ⟨on,V,G,A,must,may⟩:=a
 obtain ⟨on',V',G',A',must',may'⟩:=b
 cases ha;cases hb
 obtain ⟨rfl,rfl,rfl,rfl,rfl⟩:=h
 rfl
end
def ZyE:List Sh:=[]
def ZBN:List Con:=[⟨24,Zig,ZlG⟩]
def ZoX:Option Bool:=Za (Ya (([],[],0,[(0,[(12,0,0,0,0,0,0,1,0),(14,0,0,0,0,0,0,1,0)])]),0,[],())) none fun d1=>bif d1.2.2.2.2.2 then bif d1.2.2.2.2.1==2 then bif (List.length d1.1:Int)==2 then Za d1.1[Int.toNat 1]? none fun d2=>some d2.1 else some false else some false else some false
theorem ZMS:evGX (cxU ZBN [] 40 1048576) keeps 8 26 ZyE (.dat .bool) (():Unit)=ZoX:=by kernel_rfl
def Z0 (x:Unit):Option Bool:=ZoX
def ZhC:=conP true ZyE (.dat .bool) Z0
theorem ZmC:Zf Tryz.prog 26 ZhC:=Ze (calU ZBN [] 40 1048576 8 26) true (by rfl) (by rfl) (fun x r e=>(Zk _ _ _ _ _ _ _).trans ((ZMS ).trans e)) (.inl rfl)
def u14:U:=([],[],0,[(0,[(12,0,0,0,0,0,0,1,0),(14,0,0,0,0,0,0,1,0)])])
theorem Z6T:unitOK u14:=by
 obtain ⟨b,h1,h2⟩:=Zg6 u14 0 [] ⟨by decide,by decide,by decide,fun c hc=>by
  rw [List.mem_singleton.1 hc];decide⟩ (by decide)
 have h3:ZoW u14 0 []=some true:=by kernel_rfl
 rw [h3] at h1
 exact (h2 (Option.some.inj h1).symm).hu
theorem ZAT:ZoX=some true:=by
 have h:=(ZnL (u:=u14) (t:=0) (l:=[]) (c:=(0,[(12,0,0,0,0,0,0,1,0),(14,0,0,0,0,0,0,1,0)])) Z6T (by decide) Za5 (by decide) rfl).1
 unfold ZoX
 show Za (Zki u14 0 []) none _=_
 rw [h]
 kernel_rfl
theorem ZN:goodE offE:=⟨⟨by decide,by decide,by decide⟩,⟨by decide,by decide⟩,⟨by decide,by decide⟩⟩
theorem KN {e:E} {T:Int} {v:I} (h:goodE e):goodE (setE e T v):=⟨⟨by show (e.2.1.set _ _).length<_;rw [List.length_set];exact h.1.1,h.1.2⟩,h.2⟩
theorem Hl {p:Bool} {x y:E} (hx:goodE x) (hy:goodE y):goodE (bif p then x else y):=by
 cases p
 ·exact hy
 ·exact hx
theorem la4 {p q:Bool}:((bif p then [7] else [])++(bif q then [8] else []):List Int).length≤100:=by cases p<;>cases q<;>decide
theorem la1 {p:Bool} {v:Int}:(bif p then [v] else []:List Int).length≤100:=by cases p<;>simp
theorem la2 {p:Bool} {v:Int}:(bif p then [] else [v]:List Int).length≤100:=by cases p<;>simp
theorem ZOk {p q:Bool} {v:Int} (h:p=true→q=true):(bif p then [v] else []).length≤(bif q then [v] else []).length:=by
 cases p
 ·exact Nat.zero_le _
 ·rw [h rfl];exact Nat.le_refl _
theorem ZLw {p q:Bool} {v:Int} (h:q=true→p=true):(bif p then [] else [v]).length≤(bif q then [] else [v]).length:=by
 cases q
 ·cases p
  ·exact Nat.le_refl _
  ·exact Nat.zero_le _
 ·rw [h rfl];exact Nat.zero_le _
theorem ZsF {p q:Bool} {x y:E} (h:p=false→q=false) (k:p=false→leE x y):leO (bif p then offE else x) (bif q then offE else y):=by
 cases p
 ·rw [h rfl];exact fun _=>k rfl
 ·exact KG _
theorem ZZX {p q:Bool} {x y:E} (h:p=true→q=true) (k:p=true→leE x y):leO (bif p then x else offE) (bif q then y else offE):=by
 cases p
 ·exact KG _
 ·rw [h rfl];exact fun _=>k rfl
theorem ZNA {p q:Bool} {v z:Int} (h:p=true→q=true) (k:z∈(bif p then [v] else [])):z∈(bif q then [v] else []):=by
 cases p
 ·cases k
 ·rw [h rfl];exact k
theorem ZKW {p q:Bool} {v z:Int} (h:q=true→p=true) (k:z∈(bif p then [] else [v])):z∈(bif q then [] else [v]):=by
 cases q
 ·cases p
  ·exact k
  ·cases k
 ·rw [h rfl] at k;cases k
theorem ZPZ {e g:E} (h:leE e g) {X Y r:Int} {x y x' y':I} (hx:Zd x=false) (hy:Zd y=false) (k1:leqB x x'=true) (k2:leqB y y'=true):leO (sideV e X Y r x y) (sideV g X Y r x' y'):=by
 obtain ⟨m1,m2⟩:=Z1T r hx hy k1 k2
 unfold sideV
 generalize refI r x y=a at m1 m2
 generalize refI r x' y'=b at m1 m2
 cases X==Y
 ·show leO (bif Zd a.1 then offE else bif Zd a.2 then offE else _) (bif Zd b.1 then offE else bif Zd b.2 then offE else _)
  cases q1:Zd a.1
  ·rw [(ZdW m1 q1).2]
   show leO (bif Zd a.2 then offE else setE (setE e X a.1) Y a.2) (bif Zd b.2 then offE else setE (setE g X b.1) Y b.2)
   exact ZsF (fun q=>(ZdW m2 q).2) fun _=>Zjz (Zjz h m1) m2
  ·exact KG _
 ·have m:=ZDn m1 m2
  exact ZsF (fun q=>(ZdW m q).2) fun _=>Zjz (Zjz h m) m
theorem Zy9 {e:E} {X Y r:Int} {x y:I} (h:goodE e):goodE (sideV e X Y r x y):=by
 unfold sideV
 exact Hl (Hl ZN (KN (KN h))) (Hl ZN (Hl ZN (KN (KN h))))
theorem Z4p (u:U) (t n:Int) (e g:E) (l l':List En) (c:C) (T X Y G N op nx el:Int) (hu:unitOK u) (hE:∀ x∈l,entOK x) (hE':∀ x∈l',entOK x) (hn:l.length≤1000) (hn':l'.length≤1000) (he:envOK u t e) (hg:envOK u t g) (ge:goodE e) (gg:goodE g) (hle:leE e g) (hT:leT l l') (hc:u.2.2.2[t.toNat]? = some c) (ha:actOK u c (1,T,X,Y,G,N,op,nx,el)) :
  ∃ x y,bF u t n e l c (1,T,X,Y,G,N,op,nx,el)=some x∧bF u t n g l' c (1,T,X,Y,G,N,op,nx,el)=some y∧moreO x y:=by
 obtain ⟨c',hc',hv⟩:=he.c
 obtain rfl:c'=c:=by rw [hc] at hc';exact (Option.some.inj hc').symm
 have hv2:=hle.v.1
 exact ⟨_,_,ZRr u t n e l c' T X Y G N op nx el  hu hE hn he hc ha,ZRr u t n g l' c' T X Y G N op nx el  hu hE' hn' hg hc ha,⟨fun _=>Zjz hle (ZdP _),KG _,fun z h=>h,Nat.le_refl _,Nat.le_refl _,KN ge,ZN,KN gg,ZN,⟨by simp,by simp⟩,Nat.le_refl _⟩⟩
theorem Z4q (u:U) (t n:Int) (e g:E) (l l':List En) (c:C) (T X Y G N op nx el:Int) (hu:unitOK u) (hE:∀ x∈l,entOK x) (hE':∀ x∈l',entOK x) (hn:l.length≤1000) (hn':l'.length≤1000) (he:envOK u t e) (hg:envOK u t g) (ge:goodE e) (gg:goodE g) (hle:leE e g) (hT:leT l l') (hc:u.2.2.2[t.toNat]? = some c) (ha:actOK u c (2,T,X,Y,G,N,op,nx,el)) :
  ∃ x y,bF u t n e l c (2,T,X,Y,G,N,op,nx,el)=some x∧bF u t n g l' c (2,T,X,Y,G,N,op,nx,el)=some y∧moreO x y:=by
 obtain ⟨c',hc',hv⟩:=he.c
 obtain rfl:c'=c:=by rw [hc] at hc';exact (Option.some.inj hc').symm
 have hv2:=hle.v.1
 have hX:0≤X∧X<c'.1:=Zy.1 ha.h2
 obtain ⟨x,gx⟩:=ZL e.2.1 X (by omega)
 obtain ⟨x',gx'⟩:=ZL g.2.1 X (by omega)
 have lx:=hle.v.2 _ x x' gx gx'
 have vx:=he.v x (List.mem_append_left _ (List.mem_append_left _ (mG0 gx)))
 exact ⟨_,_,ZRs u t n e l c' T X Y G N op nx el gx hu hE hn he hc ha,ZRs u t n g l' c' T X Y G N op nx el gx' hu hE' hn' hg hc ha,⟨fun _=>Zjz hle lx,KG _,fun z h=>h,Nat.le_refl _,Nat.le_refl _,KN ge,ZN,KN gg,ZN,⟨by simp,by simp⟩,Nat.le_refl _⟩⟩
theorem Z4r (u:U) (t n:Int) (e g:E) (l l':List En) (c:C) (T X Y G N op nx el:Int) (hu:unitOK u) (hE:∀ x∈l,entOK x) (hE':∀ x∈l',entOK x) (hn:l.length≤1000) (hn':l'.length≤1000) (he:envOK u t e) (hg:envOK u t g) (ge:goodE e) (gg:goodE g) (hle:leE e g) (hT:leT l l') (hc:u.2.2.2[t.toNat]? = some c) (ha:actOK u c (3,T,X,Y,G,N,op,nx,el)) :
  ∃ x y,bF u t n e l c (3,T,X,Y,G,N,op,nx,el)=some x∧bF u t n g l' c (3,T,X,Y,G,N,op,nx,el)=some y∧moreO x y:=by
 obtain ⟨c',hc',hv⟩:=he.c
 obtain rfl:c'=c:=by rw [hc] at hc';exact (Option.some.inj hc').symm
 have hv2:=hle.v.1
 exact ⟨_,_,ZRt u t n e l c' T X Y G N op nx el  hu hE hn he hc ha,ZRt u t n g l' c' T X Y G N op nx el  hu hE' hn' hg hc ha,⟨fun _=>Zjz hle (ZdP _),KG _,fun z h=>h,Nat.le_refl _,Nat.le_refl _,KN ge,ZN,KN gg,ZN,⟨by simp,by simp⟩,Nat.le_refl _⟩⟩
theorem Z4s (u:U) (t n:Int) (e g:E) (l l':List En) (c:C) (T X Y G N op nx el:Int) (hu:unitOK u) (hE:∀ x∈l,entOK x) (hE':∀ x∈l',entOK x) (hn:l.length≤1000) (hn':l'.length≤1000) (he:envOK u t e) (hg:envOK u t g) (ge:goodE e) (gg:goodE g) (hle:leE e g) (hT:leT l l') (hc:u.2.2.2[t.toNat]? = some c) (ha:actOK u c (4,T,X,Y,G,N,op,nx,el)) :
  ∃ x y,bF u t n e l c (4,T,X,Y,G,N,op,nx,el)=some x∧bF u t n g l' c (4,T,X,Y,G,N,op,nx,el)=some y∧moreO x y:=by
 obtain ⟨c',hc',hv⟩:=he.c
 obtain rfl:c'=c:=by rw [hc] at hc';exact (Option.some.inj hc').symm
 have hv2:=hle.v.1
 have hX:0≤X∧X<c'.1:=Zy.1 ha.h2
 obtain ⟨x,gx⟩:=ZL e.2.1 X (by omega)
 obtain ⟨x',gx'⟩:=ZL g.2.1 X (by omega)
 have lx:=hle.v.2 _ x x' gx gx'
 have vx:=he.v x (List.mem_append_left _ (List.mem_append_left _ (mG0 gx)))
 have hY:0≤Y∧Y<c'.1:=Zy.1 ha.h3
 obtain ⟨y,gy⟩:=ZL e.2.1 Y (by omega)
 obtain ⟨y',gy'⟩:=ZL g.2.1 Y (by omega)
 have ly:=hle.v.2 _ y y' gy gy'
 have vy:=he.v y (List.mem_append_left _ (List.mem_append_left _ (mG0 gy)))
 have q:=ZXh op vx.2 vy.2 (ZdW lx vx.2).1 (ZdW ly vy.2).1
 exact ⟨_,_,ZRu u t n e l c' T X Y G N op nx el gx gy hu hE hn he hc ha,ZRu u t n g l' c' T X Y G N op nx el gx' gy' hu hE' hn' hg hc ha,⟨ZsF (fun k=>(ZdW q.1 k).2) fun _=>Zjz hle q.1,KG _,fun z h=>by
  rcases List.mem_append.1 h with h | h
  ·exact List.mem_append_left _ (ZNA q.2.1 h)
  ·exact List.mem_append_right _ (ZNA q.2.2 h),Nat.le_refl _,Nat.le_refl _,Hl ZN (KN ge),ZN,Hl ZN (KN gg),ZN,⟨la4,la4⟩,by
  rw [List.length_append,List.length_append]
  exact Nat.add_le_add (ZOk q.2.1) (ZOk q.2.2)⟩⟩
theorem Z4t (u:U) (t n:Int) (e g:E) (l l':List En) (c:C) (T X Y G N op nx el:Int) (hu:unitOK u) (hE:∀ x∈l,entOK x) (hE':∀ x∈l',entOK x) (hn:l.length≤1000) (hn':l'.length≤1000) (he:envOK u t e) (hg:envOK u t g) (ge:goodE e) (gg:goodE g) (hle:leE e g) (hT:leT l l') (hc:u.2.2.2[t.toNat]? = some c) (ha:actOK u c (5,T,X,Y,G,N,op,nx,el)) :
  ∃ x y,bF u t n e l c (5,T,X,Y,G,N,op,nx,el)=some x∧bF u t n g l' c (5,T,X,Y,G,N,op,nx,el)=some y∧moreO x y:=by
 obtain ⟨c',hc',hv⟩:=he.c
 obtain rfl:c'=c:=by rw [hc] at hc';exact (Option.some.inj hc').symm
 have hv2:=hle.v.1
 have hG:0≤G∧G<(u.1.length:Int):=Zy.1 ha.h4
 obtain ⟨d,gd⟩:=ZL e.2.2.1 G (by rw [he.g];omega)
 obtain ⟨d',gd'⟩:=ZL g.2.2.1 G (by rw [hg.g];omega)
 have ld:=hle.g.2 _ d d' gd gd'
 have r:=Zwb ld (ZMZ (t:=t) (ar:=false) (g:=G) hT hle.must)
 exact ⟨_,_,ZRv u t n e l c' T X Y G N op nx el gd hu hE hn he hc ha,ZRv u t n g l' c' T X Y G N op nx el gd' hu hE' hn' hg hc ha,⟨fun _=>Zjz hle r,KG _,fun z h=>h,Nat.le_refl _,Nat.le_refl _,KN ge,ZN,KN gg,ZN,⟨by simp,by simp⟩,Nat.le_refl _⟩⟩
theorem Z4u (u:U) (t n:Int) (e g:E) (l l':List En) (c:C) (T X Y G N op nx el:Int) (hu:unitOK u) (hE:∀ x∈l,entOK x) (hE':∀ x∈l',entOK x) (hn:l.length≤1000) (hn':l'.length≤1000) (he:envOK u t e) (hg:envOK u t g) (ge:goodE e) (gg:goodE g) (hle:leE e g) (hT:leT l l') (hc:u.2.2.2[t.toNat]? = some c) (ha:actOK u c (6,T,X,Y,G,N,op,nx,el)) :
  ∃ x y,bF u t n e l c (6,T,X,Y,G,N,op,nx,el)=some x∧bF u t n g l' c (6,T,X,Y,G,N,op,nx,el)=some y∧moreO x y:=by
 obtain ⟨c',hc',hv⟩:=he.c
 obtain rfl:c'=c:=by rw [hc] at hc';exact (Option.some.inj hc').symm
 have hv2:=hle.v.1
 have hX:0≤X∧X<c'.1:=Zy.1 ha.h2
 obtain ⟨x,gx⟩:=ZL e.2.1 X (by omega)
 obtain ⟨x',gx'⟩:=ZL g.2.1 X (by omega)
 have lx:=hle.v.2 _ x x' gx gx'
 have vx:=he.v x (List.mem_append_left _ (List.mem_append_left _ (mG0 gx)))
 have gg':goodE (g.1,g.2.1,g.2.2.1.set G.toNat x',g.2.2.2):=⟨⟨gg.1.1,by show (g.2.2.1.set _ _).length<_;rw [List.length_set];exact gg.1.2.1,gg.1.2.2⟩,gg.2⟩
 have ge':goodE (e.1,e.2.1,e.2.2.1.set G.toNat x,e.2.2.2):=⟨⟨ge.1.1,by show (e.2.2.1.set _ _).length<_;rw [List.length_set];exact ge.1.2.1,ge.1.2.2⟩,ge.2⟩
 exact ⟨_,_,ZRw u t n e l c' T X Y G N op nx el gx hu hE hn he hc ha,ZRw u t n g l' c' T X Y G N op nx el gx' hu hE' hn' hg hc ha,⟨fun _=>⟨hle.on,hle.v,ZA0 hle.g lx,hle.a,hle.must,hle.may⟩,KG _,fun z h=>h,Nat.le_refl _,Nat.le_refl _,ge',ZN,gg',ZN,⟨by simp,by simp⟩,Nat.le_refl _⟩⟩
theorem Z4v (u:U) (t n:Int) (e g:E) (l l':List En) (c:C) (T X Y G N op nx el:Int) (hu:unitOK u) (hE:∀ x∈l,entOK x) (hE':∀ x∈l',entOK x) (hn:l.length≤1000) (hn':l'.length≤1000) (he:envOK u t e) (hg:envOK u t g) (ge:goodE e) (gg:goodE g) (hle:leE e g) (hT:leT l l') (hc:u.2.2.2[t.toNat]? = some c) (ha:actOK u c (7,T,X,Y,G,N,op,nx,el)) :
  ∃ x y,bF u t n e l c (7,T,X,Y,G,N,op,nx,el)=some x∧bF u t n g l' c (7,T,X,Y,G,N,op,nx,el)=some y∧moreO x y:=by
 obtain ⟨c',hc',hv⟩:=he.c
 obtain rfl:c'=c:=by rw [hc] at hc';exact (Option.some.inj hc').symm
 have hv2:=hle.v.1
 have hX:0≤X∧X<c'.1:=Zy.1 ha.h2
 obtain ⟨x,gx⟩:=ZL e.2.1 X (by omega)
 obtain ⟨x',gx'⟩:=ZL g.2.1 X (by omega)
 have lx:=hle.v.2 _ x x' gx gx'
 have vx:=he.v x (List.mem_append_left _ (List.mem_append_left _ (mG0 gx)))
 have hG:0≤G∧G<(u.2.1.length:Int):=Zy.1 ha.h4
 obtain ⟨d,gd⟩:=ZL e.2.2.2.1 G (by rw [he.a];omega)
 obtain ⟨d',gd'⟩:=ZL g.2.2.2.1 G (by rw [hg.a];omega)
 have ld:=hle.a.2 _ d d' gd gd'
 obtain ⟨m,gm⟩:=ZL u.2.1 G hG
 have mz:=ZDn lx (ZdP (0,m - 1))
 have r:=Zwb ld (ZMZ (t:=t) (ar:=true) (g:=G) hT hle.must)
 exact ⟨_,_,ZRx u t n e l c' T X Y G N op nx el gx gm gd hu hE hn he hc ha,ZRx u t n g l' c' T X Y G N op nx el gx' gm gd' hu hE' hn' hg hc ha,⟨ZsF (fun k=>(ZdW mz k).2) fun _=>Zjz (Zjz hle mz) r,KG _,fun z h=>ZKW (fun k=>KH lx k) h,Nat.le_refl _,Nat.le_refl _,Hl ZN (KN (KN ge)),ZN,Hl ZN (KN (KN gg)),ZN,⟨la2,la2⟩,ZLw (fun k=>KH lx k)⟩⟩
theorem Z4w (u:U) (t n:Int) (e g:E) (l l':List En) (c:C) (T X Y G N op nx el:Int) (hu:unitOK u) (hE:∀ x∈l,entOK x) (hE':∀ x∈l',entOK x) (hn:l.length≤1000) (hn':l'.length≤1000) (he:envOK u t e) (hg:envOK u t g) (ge:goodE e) (gg:goodE g) (hle:leE e g) (hT:leT l l') (hc:u.2.2.2[t.toNat]? = some c) (ha:actOK u c (8,T,X,Y,G,N,op,nx,el)) :
  ∃ x y,bF u t n e l c (8,T,X,Y,G,N,op,nx,el)=some x∧bF u t n g l' c (8,T,X,Y,G,N,op,nx,el)=some y∧moreO x y:=by
 obtain ⟨c',hc',hv⟩:=he.c
 obtain rfl:c'=c:=by rw [hc] at hc';exact (Option.some.inj hc').symm
 have hv2:=hle.v.1
 have hX:0≤X∧X<c'.1:=Zy.1 ha.h2
 obtain ⟨x,gx⟩:=ZL e.2.1 X (by omega)
 obtain ⟨x',gx'⟩:=ZL g.2.1 X (by omega)
 have lx:=hle.v.2 _ x x' gx gx'
 have vx:=he.v x (List.mem_append_left _ (List.mem_append_left _ (mG0 gx)))
 have hY:0≤Y∧Y<c'.1:=Zy.1 ha.h3
 obtain ⟨y,gy⟩:=ZL e.2.1 Y (by omega)
 obtain ⟨y',gy'⟩:=ZL g.2.1 Y (by omega)
 have ly:=hle.v.2 _ y y' gy gy'
 have vy:=he.v y (List.mem_append_left _ (List.mem_append_left _ (mG0 gy)))
 have hG:0≤G∧G<(u.2.1.length:Int):=Zy.1 ha.h4
 obtain ⟨d,gd⟩:=ZL e.2.2.2.1 G (by rw [he.a];omega)
 obtain ⟨d',gd'⟩:=ZL g.2.2.2.1 G (by rw [hg.a];omega)
 have ld:=hle.a.2 _ d d' gd gd'
 obtain ⟨m,gm⟩:=ZL u.2.1 G hG
 have mz:=ZDn lx (ZdP (0,m - 1))
 obtain ⟨p,gp⟩:=ZL (e.2.1.set X.toNat (mSpan x (0,m - 1))) Y (by rw [List.length_set];omega)
 obtain ⟨p',gp'⟩:=ZL (g.2.1.set X.toNat (mSpan x' (0,m - 1))) Y (by rw [List.length_set];omega)
 have lp:=(ZA0 (i:=X.toNat) hle.v mz).2 _ p p' gp gp'
 have r:=Zwb ld lp
 have gg':goodE (g.1,g.2.1.set X.toNat (mSpan x' (0,m - 1)),g.2.2.1,g.2.2.2.1.set G.toNat (rJoin d' p'),g.2.2.2.2):=⟨⟨by show (g.2.1.set _ _).length<_;rw [List.length_set];exact gg.1.1,gg.1.2.1,by show (g.2.2.2.1.set _ _).length<_;rw [List.length_set];exact gg.1.2.2⟩,gg.2⟩
 have ge':goodE (e.1,e.2.1.set X.toNat (mSpan x (0,m - 1)),e.2.2.1,e.2.2.2.1.set G.toNat (rJoin d p),e.2.2.2.2):=⟨⟨by show (e.2.1.set _ _).length<_;rw [List.length_set];exact ge.1.1,ge.1.2.1,by show (e.2.2.2.1.set _ _).length<_;rw [List.length_set];exact ge.1.2.2⟩,ge.2⟩
 exact ⟨_,_,ZRy u t n e l c' T X Y G N op nx el gx gy gm gd gp hu hE hn he hc ha,ZRy u t n g l' c' T X Y G N op nx el gx' gy' gm gd' gp' hu hE' hn' hg hc ha,⟨ZsF (fun k=>(ZdW mz k).2) fun _=>⟨hle.on,ZA0 hle.v mz,hle.g,ZA0 hle.a r,hle.must,hle.may⟩,KG _,fun z h=>ZKW (fun k=>KH lx k) h,Nat.le_refl _,Nat.le_refl _,Hl ZN ge',ZN,Hl ZN gg',ZN,⟨la2,la2⟩,ZLw (fun k=>KH lx k)⟩⟩
theorem Z4x (u:U) (t n:Int) (e g:E) (l l':List En) (c:C) (T X Y G N op nx el:Int) (hu:unitOK u) (hE:∀ x∈l,entOK x) (hE':∀ x∈l',entOK x) (hn:l.length≤1000) (hn':l'.length≤1000) (he:envOK u t e) (hg:envOK u t g) (ge:goodE e) (gg:goodE g) (hle:leE e g) (hT:leT l l') (hc:u.2.2.2[t.toNat]? = some c) (ha:actOK u c (9,T,X,Y,G,N,op,nx,el)) :
  ∃ x y,bF u t n e l c (9,T,X,Y,G,N,op,nx,el)=some x∧bF u t n g l' c (9,T,X,Y,G,N,op,nx,el)=some y∧moreO x y:=by
 obtain ⟨c',hc',hv⟩:=he.c
 obtain rfl:c'=c:=by rw [hc] at hc';exact (Option.some.inj hc').symm
 have hv2:=hle.v.1
 have w1:=ZpW e.2.2.2.2.1 G ge.2.1
 have w2:=ZpW e.2.2.2.2.2 G ge.2.2
 have w3:=ZpW g.2.2.2.2.1 G gg.2.1
 have w4:=ZpW g.2.2.2.2.2 G gg.2.2
 have ge':goodE (e.1,e.2.1,gmap l t false e.2.2.2.2.1 G e.2.2.1,gmap l t true e.2.2.2.2.1 G e.2.2.2.1,wiI e.2.2.2.2.1 G,wiI e.2.2.2.2.2 G):=⟨⟨ge.1.1,by simpa [gmap] using ge.1.2.1,by simpa [gmap] using ge.1.2.2⟩,w1.1,w2.1⟩
 have gg':goodE (g.1,g.2.1,gmap l' t false g.2.2.2.2.1 G g.2.2.1,gmap l' t true g.2.2.2.2.1 G g.2.2.2.1,wiI g.2.2.2.2.1 G,wiI g.2.2.2.2.2 G):=⟨⟨gg.1.1,by simpa [gmap] using gg.1.2.1,by simpa [gmap] using gg.1.2.2⟩,w3.1,w4.1⟩
 exact ⟨_,_,ZRz u t n e l c' T X Y G N op nx el  hu hE hn he hc ha,ZRz u t n g l' c' T X Y G N op nx el  hu hE' hn' hg hc ha,⟨ZsF (fun k=>by
  cases q:tb g.2.2.2.2.1 G
  ·rfl
  ·rw [Zwv hle.must q] at k;cases k) fun _=>⟨hle.on,hle.v,ZPt hT hle.must hle.g,ZPt hT hle.must hle.a,ZXQ gg.2.1 ge.2.1 hle.must,ZXQ ge.2.2 gg.2.2 hle.may⟩,KG _,fun z h=>ZNA (Zwv hle.may) h,Nat.le_refl _,Nat.le_refl _,Hl ZN ge',ZN,Hl ZN gg',ZN,⟨la1,la1⟩,ZOk (Zwv hle.may)⟩⟩
theorem Z20 (u:U) (t n:Int) (e g:E) (l l':List En) (c:C) (T X Y G N op nx el:Int) (hu:unitOK u) (hE:∀ x∈l,entOK x) (hE':∀ x∈l',entOK x) (hn:l.length≤1000) (hn':l'.length≤1000) (he:envOK u t e) (hg:envOK u t g) (ge:goodE e) (gg:goodE g) (hle:leE e g) (hT:leT l l') (hc:u.2.2.2[t.toNat]? = some c) (ha:actOK u c (10,T,X,Y,G,N,op,nx,el)) :
  ∃ x y,bF u t n e l c (10,T,X,Y,G,N,op,nx,el)=some x∧bF u t n g l' c (10,T,X,Y,G,N,op,nx,el)=some y∧moreO x y:=by
 obtain ⟨c',hc',hv⟩:=he.c
 obtain rfl:c'=c:=by rw [hc] at hc';exact (Option.some.inj hc').symm
 have hv2:=hle.v.1
 have w1:=ZpX e.2.2.2.2.1 G ge.2.1
 have w2:=ZpX e.2.2.2.2.2 G ge.2.2
 have w3:=ZpX g.2.2.2.2.1 G gg.2.1
 have w4:=ZpX g.2.2.2.2.2 G gg.2.2
 exact ⟨_,_,ZNk u t n e l c' T X Y G N op nx el  hu hE hn he hc ha,ZNk u t n g l' c' T X Y G N op nx el  hu hE' hn' hg hc ha,⟨ZZX (Zwv hle.may) fun _=>⟨hle.on,hle.v,hle.g,hle.a,ZXS gg.2.1 ge.2.1 hle.must,ZXS ge.2.2 gg.2.2 hle.may⟩,KG _,fun z h=>ZKW (Zwv hle.must) h,Nat.le_refl _,Nat.le_refl _,Hl ⟨ge.1,w1.1,w2.1⟩ ZN,ZN,Hl ⟨gg.1,w3.1,w4.1⟩ ZN,ZN,⟨la2,la2⟩,ZLw (Zwv hle.must)⟩⟩
theorem Z21 (u:U) (t n:Int) (e g:E) (l l':List En) (c:C) (T X Y G N op nx el:Int) (hu:unitOK u) (hE:∀ x∈l,entOK x) (hE':∀ x∈l',entOK x) (hn:l.length≤1000) (hn':l'.length≤1000) (he:envOK u t e) (hg:envOK u t g) (ge:goodE e) (gg:goodE g) (hle:leE e g) (hT:leT l l') (hc:u.2.2.2[t.toNat]? = some c) (ha:actOK u c (11,T,X,Y,G,N,op,nx,el)) :
  ∃ x y,bF u t n e l c (11,T,X,Y,G,N,op,nx,el)=some x∧bF u t n g l' c (11,T,X,Y,G,N,op,nx,el)=some y∧moreO x y:=by
 obtain ⟨c',hc',hv⟩:=he.c
 obtain rfl:c'=c:=by rw [hc] at hc';exact (Option.some.inj hc').symm
 have hv2:=hle.v.1
 have hX:0≤X∧X<c'.1:=Zy.1 ha.h2
 obtain ⟨x,gx⟩:=ZL e.2.1 X (by omega)
 obtain ⟨x',gx'⟩:=ZL g.2.1 X (by omega)
 have lx:=hle.v.2 _ x x' gx gx'
 have vx:=he.v x (List.mem_append_left _ (List.mem_append_left _ (mG0 gx)))
 have hY:0≤Y∧Y<c'.1:=Zy.1 ha.h3
 obtain ⟨y,gy⟩:=ZL e.2.1 Y (by omega)
 obtain ⟨y',gy'⟩:=ZL g.2.1 Y (by omega)
 have ly:=hle.v.2 _ y y' gy gy'
 have vy:=he.v y (List.mem_append_left _ (List.mem_append_left _ (mG0 gy)))
 obtain ⟨w,n1⟩:=ZML op
 exact ⟨_,_,ZNl u t n e l c' T X Y G N op nx el gx gy n1 hu hE hn he hc ha,ZNl u t n g l' c' T X Y G N op nx el gx' gy' n1 hu hE' hn' hg hc ha,⟨ZPZ hle vx.2 vy.2 lx ly,ZPZ hle vx.2 vy.2 lx ly,fun z h=>h,Nat.le_refl _,Nat.le_refl _,Zy9 ge,Zy9 ge,Zy9 gg,Zy9 gg,⟨by simp,by simp⟩,Nat.le_refl _⟩⟩
theorem Z22 (u:U) (t n:Int) (e g:E) (l l':List En) (c:C) (T X Y G N op nx el:Int) (hu:unitOK u) (hE:∀ x∈l,entOK x) (hE':∀ x∈l',entOK x) (hn:l.length≤1000) (hn':l'.length≤1000) (he:envOK u t e) (hg:envOK u t g) (ge:goodE e) (gg:goodE g) (hle:leE e g) (hT:leT l l') (hc:u.2.2.2[t.toNat]? = some c) (ha:actOK u c (12,T,X,Y,G,N,op,nx,el)) :
  ∃ x y,bF u t n e l c (12,T,X,Y,G,N,op,nx,el)=some x∧bF u t n g l' c (12,T,X,Y,G,N,op,nx,el)=some y∧moreO x y:=by
 obtain ⟨c',hc',hv⟩:=he.c
 obtain rfl:c'=c:=by rw [hc] at hc';exact (Option.some.inj hc').symm
 have hv2:=hle.v.1
 exact ⟨_,_,ZNm u t n e l c' T X Y G N op nx el  hu hE hn he hc ha,ZNm u t n g l' c' T X Y G N op nx el  hu hE' hn' hg hc ha,⟨fun _=>hle,KG _,fun z h=>h,Nat.le_refl _,Nat.le_refl _,ge,ZN,gg,ZN,⟨by simp,by simp⟩,Nat.le_refl _⟩⟩
theorem Z23 (u:U) (t n:Int) (e g:E) (l l':List En) (c:C) (T X Y G N op nx el:Int) (hu:unitOK u) (hE:∀ x∈l,entOK x) (hE':∀ x∈l',entOK x) (hn:l.length≤1000) (hn':l'.length≤1000) (he:envOK u t e) (hg:envOK u t g) (ge:goodE e) (gg:goodE g) (hle:leE e g) (hT:leT l l') (hc:u.2.2.2[t.toNat]? = some c) (ha:actOK u c (13,T,X,Y,G,N,op,nx,el)) :
  ∃ x y,bF u t n e l c (13,T,X,Y,G,N,op,nx,el)=some x∧bF u t n g l' c (13,T,X,Y,G,N,op,nx,el)=some y∧moreO x y:=by
 obtain ⟨c',hc',hv⟩:=he.c
 obtain rfl:c'=c:=by rw [hc] at hc';exact (Option.some.inj hc').symm
 have hv2:=hle.v.1
 exact ⟨_,_,ZNn u t n e l c' T X Y G N op nx el  hu hE hn he hc ha,ZNn u t n g l' c' T X Y G N op nx el  hu hE' hn' hg hc ha,⟨KG _,KG _,fun z h=>h,Nat.le_refl _,Nat.le_refl _,ZN,ZN,ZN,ZN,⟨by simp,by simp⟩,Nat.le_refl _⟩⟩
theorem Z24 (u:U) (t n:Int) (e g:E) (l l':List En) (c:C) (T X Y G N op nx el:Int) (hu:unitOK u) (hE:∀ x∈l,entOK x) (hE':∀ x∈l',entOK x) (hn:l.length≤1000) (hn':l'.length≤1000) (he:envOK u t e) (hg:envOK u t g) (ge:goodE e) (gg:goodE g) (hle:leE e g) (hT:leT l l') (hc:u.2.2.2[t.toNat]? = some c) (ha:actOK u c (14,T,X,Y,G,N,op,nx,el)) :
  ∃ x y,bF u t n e l c (14,T,X,Y,G,N,op,nx,el)=some x∧bF u t n g l' c (14,T,X,Y,G,N,op,nx,el)=some y∧moreO x y:=by
 obtain ⟨c',hc',hv⟩:=he.c
 obtain rfl:c'=c:=by rw [hc] at hc';exact (Option.some.inj hc').symm
 have hv2:=hle.v.1
 exact ⟨_,_,ZNo u t n e l c' T X Y G N op nx el  hu hE hn he hc ha,ZNo u t n g l' c' T X Y G N op nx el  hu hE' hn' hg hc ha,⟨KG _,KG _,fun z h=>h,Nat.le_refl _,Nat.le_refl _,ZN,ZN,ZN,ZN,⟨by simp,by simp⟩,Nat.le_refl _⟩⟩
section
open Go.Proofs
theorem ZH1 {a b c:List I} (h:leR a b) (k:leR b c):leR a c:=by
 refine ⟨h.1.trans k.1,fun i x z hx hz=>?_⟩
 have hi:i<a.length:=(List.getElem?_eq_some_iff.1 hx).1
 have hy:b[i]? = some (b[i]'(by rw [← h.1];exact hi)):=List.getElem?_eq_getElem _
 exact KH (h.2 i x _ hx hy) (k.2 i _ z hy hz)
theorem ZNh {a b c:Int} (h:subB a b) (k:subB b c):subB a c:=fun i q=>k i (h i q)
theorem ZP3 (a:Int):subB a a:=fun i q=>q
theorem ZLt {x:E} (h:x.1=true):leE x x:=⟨h,ZLu _,ZLu _,ZLu _,ZP3 _,ZP3 _⟩
theorem ZPz {x y z:E} (h:leE x y) (k:leE y z):leE x z:=⟨k.on,ZH1 h.v k.v,ZH1 h.g k.g,ZH1 h.a k.a,ZNh k.must h.must,ZNh h.may k.may⟩
theorem Zxb (x:E):leO x x:=fun h=>ZLt h
theorem Zpx {x y z:E} (h:leO x y) (k:leO y z):leO x z:=fun q=>ZPz (h q) (k (h q).on)
theorem Zsd {x y:Int} (hx:okB x) (hy:okB y):andI x y=((x.toNat &&& y.toNat:Nat):Int):=by
 unfold okB at *
 have h:=ZCg (a:=x.toNat) (b:=y.toNat) (by omega) (by omega)
 rw [show ((x.toNat:Nat):Int)=x by omega,show ((y.toNat:Nat):Int)=y by omega] at h
 exact h
theorem ZI6 {x y:Int} (hx:okB x) (hy:okB y):orI x y=((x.toNat ||| y.toNat:Nat):Int):=by
 unfold okB at *
 have h:=ZTg (a:=x.toNat) (b:=y.toNat) (by omega) (by omega)
 rw [show ((x.toNat:Nat):Int)=x by omega,show ((y.toNat:Nat):Int)=y by omega] at h
 exact h
theorem Z5U {x y:Int} (hx:okB x) (hy:okB y):subB (andI x y) x:=fun i q=>by
 rw [Zsd hx hy,tN0,Nat.testBit_and,Bool.and_eq_true] at q
 exact q.1
theorem Z2n {x y:Int} (hx:okB x) (hy:okB y):subB (andI x y) y:=fun i q=>by
 rw [Zsd hx hy,tN0,Nat.testBit_and,Bool.and_eq_true] at q
 exact q.2
theorem Z6U {x y:Int} (hx:okB x) (hy:okB y):subB x (orI x y):=fun i q=>by
 rw [ZI6 hx hy,tN0,Nat.testBit_or,q,Bool.true_or]
theorem Z6V {x y:Int} (hx:okB x) (hy:okB y):subB y (orI x y):=fun i q=>by
 rw [ZI6 hx hy,tN0,Nat.testBit_or,q,Bool.or_true]
theorem ZUe {F:I→I→I} {a b:List I} {i:Nat} {z:I} (h:(zipI F a b)[i]? = some z):∃ x,a[i]? = some x∧z=F x (rowAt b i):=by
 unfold zipI at h
 rw [List.getElem?_mapIdx] at h
 cases e:a[i]? with
 | none=>rw [e] at h;cases h
 | some x=>rw [e] at h;exact ⟨x,rfl,(Option.some.inj h).symm⟩
theorem ZBm {b:List I} {i:Nat} {y:I} (h:b[i]? = some y):rowAt b i=y:=by unfold rowAt;rw [h];rfl
theorem ZOX {F:I→I→I} (hF:upF F) {a b:List I} (hl:a.length=b.length) (ha:∀ x∈a,isB x=true) (hb:∀ x∈b,isB x=true):leR a (zipI F a b):=by
 refine ⟨(Zww F a b).symm,fun i x z hx hz=>?_⟩
 obtain ⟨x',h1,rfl⟩:=ZUe hz
 rw [hx] at h1;cases h1
 have hi:i<b.length:=by rw [← hl];exact (List.getElem?_eq_some_iff.1 hx).1
 rw [ZBm (List.getElem?_eq_getElem hi)]
 exact (hF x b[i] (ha x (mG0 hx)) (hb _ (List.getElem_mem hi))).1
theorem ZOY {F:I→I→I} (hF:upF F) {a b:List I} (hl:a.length=b.length) (ha:∀ x∈a,isB x=true) (hb:∀ x∈b,isB x=true):leR b (zipI F a b):=by
 refine ⟨by rw [Zww,hl],fun i y z hy hz=>?_⟩
 obtain ⟨x,h1,rfl⟩:=ZUe hz
 rw [ZBm hy]
 exact (hF x y (ha x (mG0 h1)) (hb y (mG0 hy))).2
def upL (es es':List E):Prop:=∀ (i:Nat) (x:E),es[i]? = some x→∃ y,es'[i]? = some y∧leO x y
theorem ZEF (es:List E):upL es es:=fun i x h=>⟨x,h,Zxb x⟩
theorem Zzo {a b c:List E} (h:upL a b) (k:upL b c):upL a c:=fun i x hx=>by
 obtain ⟨y,hy,q⟩:=h i x hx
 obtain ⟨z,hz,w⟩:=k i y hy
 exact ⟨z,hz,Zpx q w⟩
theorem ZXD {a b:E} (ha:a.1=true) (h:sameE a b=true):a=b:=by
 cases hb:b.1
 ·unfold sameE at h
  rw [ha,hb] at h
  have h':(true==false)=true:=h
  exact absurd h' (by decide)
 ·exact Z13 ha hb h
section
variable {u:U} {t:Int} {l:List En} {st:List Int} {c:C} {a b:E}
theorem ZN6 (ha:envOK u t a) (hb:envOK u t b):a.2.1.length=b.2.1.length∧a.2.2.1.length=b.2.2.1.length∧a.2.2.2.1.length=b.2.2.2.1.length:=by
 obtain ⟨c,hc,h1⟩:=ha.c
 obtain ⟨c',hc',h2⟩:=hb.c
 rw [hc] at hc';cases hc'
 have:=ha.g
 have:=hb.g
 have:=ha.a
 have:=hb.a
 exact ⟨by omega,by omega,by omega⟩
theorem Z26 {F:I→I→I} (hF:upF F) (ha:envOK u t a) (hb:envOK u t b):leE a (mrg F a b):=by
 obtain ⟨l1,l2,l3⟩:=ZN6 ha hb
 exact ⟨rfl,ZOX hF l1 (fun x k=>(envV ha x k).1) fun x k=>(envV hb x k).1,ZOX hF l2 (fun x k=>(envG ha x k).1) fun x k=>(envG hb x k).1,ZOX hF l3 (fun x k=>(envA ha x k).1) fun x k=>(envA hb x k).1,Z5U ha.must hb.must,Z6U ha.may hb.may⟩
theorem Z27 {F:I→I→I} (hF:upF F) (ha:envOK u t a) (hb:envOK u t b):leE b (mrg F a b):=by
 obtain ⟨l1,l2,l3⟩:=ZN6 ha hb
 exact ⟨rfl,ZOY hF l1 (fun x k=>(envV ha x k).1) fun x k=>(envV hb x k).1,ZOY hF l2 (fun x k=>(envG ha x k).1) fun x k=>(envG hb x k).1,ZOY hF l3 (fun x k=>(envA ha x k).1) fun x k=>(envA hb x k).1,Z2n ha.must hb.must,Z6V ha.may hb.may⟩
theorem ZHJ {F:I→I→I} (hF:upF F) (ha1:a.1=true) (ha:envOK u t a) (hb:b.1=true→envOK u t b):leE a (eJoin F a b):=by
 unfold eJoin
 rw [ha1,cond_true]
 cases hb1:b.1
 ·exact ZLt ha1
 ·exact Z26 hF ha (hb hb1)
theorem ZHK {F:I→I→I} (hF:upF F) (ha:a.1=true→envOK u t a) (hb1:b.1=true) (hb:envOK u t b):leE b (eJoin F a b):=by
 unfold eJoin
 rw [hb1]
 cases ha1:a.1
 ·exact ZLt hb1
 ·exact Z27 hF (ha ha1) hb
def Vs (u:U) (t:Int) (l:List En) (es:List E) (i:Nat) (d:A):Prop:=
 ∃ x y,es[d.2.2.2.2.2.2.2.1.toNat]? = some x∧es[d.2.2.2.2.2.2.2.2.toNat]? = some y∧leO (outV u t i ((es[i]?).getD offE) l).1 x∧leO (outV u t i ((es[i]?).getD offE) l).2.1 y
end
end
section
open Go.Proofs
def rdV (L:List I) (i:Int):I:=(L[i.toNat]?).getD nn
def notI (op:Int):Int:=(Ztz op).getD 0
def oV (u:U) (t n:Int) (e:E) (l:List En) (a:A):O:=
 match a with
 | (k,T,X,Y,G,N,op,nx,el)=>
  bif !e.1 then (offE,offE,[],[],[]) else
  bif k==1 then (setE e T (N,N),offE,[],[],[]) else
  bif k==2 then (setE e T (rdV e.2.1 X),offE,[],[],[]) else
  bif k==3 then (setE e T (-2147483648,2147483647),offE,[],[],[]) else
  bif k==4 then (bif Zd (doI op (rdV e.2.1 X) (rdV e.2.1 Y)).1 then offE else setE e T (doI op (rdV e.2.1 X) (rdV e.2.1 Y)).1,offE,(bif (doI op (rdV e.2.1 X) (rdV e.2.1 Y)).2.1 then [7] else [])++(bif (doI op (rdV e.2.1 X) (rdV e.2.1 Y)).2.2 then [8] else []),[],[]) else
  bif k==5 then (setE e T (readV (rdV e.2.2.1 G) l t false G e.2.2.2.2.1),offE,[],[],[(t,n,false,G,false,e.2.2.2.2.1)]) else
  bif k==6 then ((e.1,e.2.1,e.2.2.1.set G.toNat (rdV e.2.1 X),e.2.2.2),offE,[],[(t,false,G,e.2.2.2.2.1,rdV e.2.1 X)],[(t,n,false,G,true,e.2.2.2.2.1)]) else
  bif k==7 then (bif Zd (mSpan (rdV e.2.1 X) (0,(u.2.1[G.toNat]?).getD 0 - 1)) then offE else setE (setE e X (mSpan (rdV e.2.1 X) (0,(u.2.1[G.toNat]?).getD 0 - 1))) T (readV (rdV e.2.2.2.1 G) l t true G e.2.2.2.2.1),offE,(bif leqB (rdV e.2.1 X) (0,(u.2.1[G.toNat]?).getD 0 - 1) then [] else [9]),[],[(t,n,true,G,false,e.2.2.2.2.1)]) else
  bif k==8 then (bif Zd (mSpan (rdV e.2.1 X) (0,(u.2.1[G.toNat]?).getD 0 - 1)) then offE else (e.1,e.2.1.set X.toNat (mSpan (rdV e.2.1 X) (0,(u.2.1[G.toNat]?).getD 0 - 1)),e.2.2.1,e.2.2.2.1.set G.toNat (rJoin (rdV e.2.2.2.1 G) (rdV (e.2.1.set X.toNat (mSpan (rdV e.2.1 X) (0,(u.2.1[G.toNat]?).getD 0 - 1))) Y)),e.2.2.2.2),offE,(bif leqB (rdV e.2.1 X) (0,(u.2.1[G.toNat]?).getD 0 - 1) then [] else [9]),[(t,true,G,e.2.2.2.2.1,rdV e.2.1 Y)],[(t,n,true,G,true,e.2.2.2.2.1)]) else
  bif k==9 then (bif tb e.2.2.2.2.1 G then offE else (e.1,e.2.1,gmap l t false e.2.2.2.2.1 G e.2.2.1,gmap l t true e.2.2.2.2.1 G e.2.2.2.1,wiI e.2.2.2.2.1 G,wiI e.2.2.2.2.2 G),offE,(bif tb e.2.2.2.2.2 G then [11] else []),[],[]) else
  bif k==10 then (bif tb e.2.2.2.2.2 G then (e.1,e.2.1,e.2.2.1,e.2.2.2.1,woI e.2.2.2.2.1 G,woI e.2.2.2.2.2 G) else offE,offE,(bif tb e.2.2.2.2.1 G then [] else [12]),[],[]) else
  bif k==11 then (sideV e X Y op (rdV e.2.1 X) (rdV e.2.1 Y),sideV e X Y (notI op) (rdV e.2.1 X) (rdV e.2.1 Y),[],[],[]) else
  bif k==12 then (e,offE,[],[],[]) else
  bif k==13 then (offE,offE,[10],[],[]) else (offE,offE,[],[],[])
theorem Zcc {L:List I} {i:Int} {x:I} (h:L[i.toNat]? = some x):rdV L i=x:=by unfold rdV;rw [h];rfl
variable {u:U} {t n:Int} {e:E} {l:List En} {c:C}
theorem Z4g (hu:unitOK u) (ht:0≤t) (hl:tabOK l) (hn:l.length≤1000) (he:e.1=true→envOK u t e) (h1:0≤n) (hc:u.2.2.2[t.toNat]? = some c) {a:A} (ga:c.2[n.toNat]? = some a) :
  Za2 u t n e l=some (oV u t n e l a):=by
 have h2:n<(c.2.length:Int):=by have:=(List.getElem?_eq_some_iff.1 ga).1;omega
 cases he1:e.1
 ·obtain ⟨on,V,G,A,must,may⟩:=e
  cases he1
  have e0:decide (0≤t)=true:=dT0 ht
  have e1:decide (0≤n)=true:=dT0 h1
  unfold Za2
  rw [e0,hc,e1,cond_true,Zb,cond_true,ga,Zb]
  rfl
 have hE:=he he1
 have ha:=(hu.ts c (mG0 hc)).a a (mG0 ga)
 rw [ZRf u t n e l c a ht hc h1 ga he1]
 have hle:=hl.e
 obtain ⟨cc,hc',hv⟩:=hE.c
 obtain rfl:cc=c:=by rw [hc] at hc';exact (Option.some.inj hc').symm
 have vx:∀ {X:Int},0≤X∧X<cc.1→∃ x,e.2.1[X.toNat]? = some x:=fun {X} h=>ZL e.2.1 X (by omega)
 have gx:∀ {G:Int},0≤G∧G<(u.1.length:Int)→∃ x,e.2.2.1[G.toNat]? = some x:=fun {G} h=>ZL e.2.2.1 G (by rw [hE.g];exact h)
 have ax:∀ {G:Int},0≤G∧G<(u.2.1.length:Int)→∃ x m,e.2.2.2.1[G.toNat]? = some x∧u.2.1[G.toNat]? = some m:=fun {G} h=>by
  obtain ⟨x,gx⟩:=ZL e.2.2.2.1 G (by rw [hE.a];exact h)
  obtain ⟨m,gm⟩:=ZL u.2.1 G h
  exact ⟨x,m,gx,gm⟩
 obtain ⟨k,T,X,Y,G,N,op,nx,el⟩:=a
 have k1:1≤k:=ha.k1
 have k2:k≤14:=ha.k2
 have hk:k=1∨k=2∨k=3∨k=4∨k=5∨k=6∨k=7∨k=8∨k=9∨k=10∨k=11∨k=12∨k=13∨k=14:=by omega
 rcases hk with rfl | rfl | rfl | rfl | rfl | rfl | rfl | rfl | rfl | rfl | rfl | rfl | rfl | rfl
 ·rw [ZRr u t n e l cc T X Y G N op nx el hu hle hn hE hc ha]
  simp only [oV,he1,Bool.not_true,cond_false];rfl
 ·obtain ⟨x,g1⟩:=vx (Zy.1 ha.h2)
  rw [ZRs u t n e l cc T X Y G N op nx el g1 hu hle hn hE hc ha]
  simp only [oV,he1,Bool.not_true,cond_false,Zcc g1];rfl
 ·rw [ZRt u t n e l cc T X Y G N op nx el hu hle hn hE hc ha]
  simp only [oV,he1,Bool.not_true,cond_false];rfl
 ·obtain ⟨x,g1⟩:=vx (Zy.1 ha.h2)
  obtain ⟨y,g2⟩:=vx (Zy.1 ha.h3)
  rw [ZRu u t n e l cc T X Y G N op nx el g1 g2 hu hle hn hE hc ha]
  simp only [oV,he1,Bool.not_true,cond_false,Zcc g1,Zcc g2];rfl
 ·obtain ⟨x,g1⟩:=gx (Zy.1 ha.h4)
  rw [ZRv u t n e l cc T X Y G N op nx el g1 hu hle hn hE hc ha]
  simp only [oV,he1,Bool.not_true,cond_false,Zcc g1];rfl
 ·obtain ⟨x,g1⟩:=vx (Zy.1 ha.h2)
  rw [ZRw u t n e l cc T X Y G N op nx el g1 hu hle hn hE hc ha]
  simp only [oV,he1,Bool.not_true,cond_false,Zcc g1];rfl
 ·obtain ⟨x,g1⟩:=vx (Zy.1 ha.h2)
  obtain ⟨d,m,g2,gm⟩:=ax (Zy.1 ha.h4)
  rw [ZRx u t n e l cc T X Y G N op nx el g1 gm g2 hu hle hn hE hc ha]
  simp only [oV,he1,Bool.not_true,cond_false,Zcc g1,Zcc g2,gm,Option.getD_some];rfl
 ·obtain ⟨x,g1⟩:=vx (Zy.1 ha.h2)
  obtain ⟨y,g3⟩:=vx (Zy.1 ha.h3)
  obtain ⟨d,m,g2,gm⟩:=ax (Zy.1 ha.h4)
  have hY:0≤Y∧Y<cc.1:=Zy.1 ha.h3
  obtain ⟨y',gy'⟩:=ZL (e.2.1.set X.toNat (mSpan x (0,m - 1))) Y (by rw [List.length_set];omega)
  rw [ZRy u t n e l cc T X Y G N op nx el g1 g3 gm g2 gy' hu hle hn hE hc ha]
  simp only [oV,he1,Bool.not_true,cond_false,Zcc g1,Zcc g2,Zcc g3,gm,Option.getD_some,Zcc gy'];rfl
 ·rw [ZRz u t n e l cc T X Y G N op nx el hu hle hn hE hc ha]
  simp only [oV,he1,Bool.not_true,cond_false];rfl
 ·rw [ZNk u t n e l cc T X Y G N op nx el hu hle hn hE hc ha]
  simp only [oV,he1,Bool.not_true,cond_false];rfl
 ·obtain ⟨x,g1⟩:=vx (Zy.1 ha.h2)
  obtain ⟨y,g2⟩:=vx (Zy.1 ha.h3)
  obtain ⟨w,n1⟩:=ZML op
  have hw:notI op=w:=by unfold notI;rw [n1];rfl
  rw [ZNl u t n e l cc T X Y G N op nx el g1 g2 n1 hu hle hn hE hc ha]
  simp only [oV,he1,Bool.not_true,cond_false,Zcc g1,Zcc g2,hw];rfl
 ·rw [ZNm u t n e l cc T X Y G N op nx el hu hle hn hE hc ha]
  simp only [oV,he1,Bool.not_true,cond_false];rfl
 ·rw [ZNn u t n e l cc T X Y G N op nx el hu hle hn hE hc ha]
  simp only [oV,he1,Bool.not_true,cond_false];rfl
 ·rw [ZNo u t n e l cc T X Y G N op nx el hu hle hn hE hc ha]
  simp only [oV,he1,Bool.not_true,cond_false];rfl
theorem Z3d (a:A):((oV u t n e l a).1.1=true→a.1≠13∧a.1≠14)∧((oV u t n e l a).2.1.1=true→a.1=11):=by
 obtain ⟨k,T,X,Y,G,N,op,nx,el⟩:=a
 unfold oV
 cases e.1
 ·exact ⟨(fun h=>nomatch h),fun h=>nomatch h⟩
 simp only [Bool.not_true,cond_false]
 refine ⟨fun h=>⟨?_,?_⟩,fun h=>?_⟩
 ·rintro rfl;exact nomatch h
 ·rintro rfl;exact nomatch h
 ·by_cases q:k=11
  ·exact q
  ·have hq:(k==11)=false:=by simpa using q
   rw [hq] at h
   revert h
   cases k==1
   case true=>exact fun h=>nomatch h
   cases k==2
   case true=>exact fun h=>nomatch h
   cases k==3
   case true=>exact fun h=>nomatch h
   cases k==4
   case true=>exact fun h=>nomatch h
   cases k==5
   case true=>exact fun h=>nomatch h
   cases k==6
   case true=>exact fun h=>nomatch h
   cases k==7
   case true=>exact fun h=>nomatch h
   cases k==8
   case true=>exact fun h=>nomatch h
   cases k==9
   case true=>exact fun h=>nomatch h
   cases k==10
   case true=>exact fun h=>nomatch h
   cases k==12
   case true=>exact fun h=>nomatch h
   cases k==13<;>exact fun h=>nomatch h
end
section
open Go.Proofs
theorem ZSF {u:U} {t:Int} {e:E} (hu:unitOK u) (he:envOK u t e):goodE e:=by
 obtain ⟨c',hc',hv⟩:=he.c
 have cv:=(hu.ts c' (mG0 hc')).v
 have h1:=hu.g
 have h2:=hu.a
 have h3:=he.g
 have h4:=he.a
 exact ⟨⟨by omega,by omega,by omega⟩,he.must,he.may⟩
theorem Z2K (u:U) (t n:Int) (e g:E) (l l':List En) (h0:0≤t) (hu:unitOK u) (hE:∀ x∈l,entOK x) (hE':∀ x∈l',entOK x) (hl:l.length≤1000) (hl':l'.length≤1000) (he:envOK u t e) (hg:envOK u t g) (e1:e.1=true) (hle:leE e g) (hT:leT l l')
  (hn:0≤n) (c:C) (hc:u.2.2.2[t.toNat]? = some c) (h2:n<(c.2.length:Int)):∃ x y,Za2 u t n e l=some x∧Za2 u t n g l'=some y∧moreO x y:=by
 obtain ⟨a,ga⟩:=ZL c.2 n ⟨hn,h2⟩
 have ha:=(hu.ts c (mG0 hc)).a a (mG0 ga)
 rw [ZRf u t n e l c a h0 hc hn ga e1,ZRf u t n g l' c a h0 hc hn ga hle.on]
 have ge:=ZSF hu he
 have gg:=ZSF hu hg
 obtain ⟨k,T,X,Y,G,N,op,nx,el⟩:=a
 have k1:1≤k:=ha.k1
 have k2:k≤14:=ha.k2
 have hk:k=1∨k=2∨k=3∨k=4∨k=5∨k=6∨k=7∨k=8∨k=9∨k=10∨k=11∨k=12∨k=13∨k=14:=by omega
 rcases hk with rfl | rfl | rfl | rfl | rfl | rfl | rfl | rfl | rfl | rfl | rfl | rfl | rfl | rfl
 ·exact Z4p u t n e g l l' c T X Y G N op nx el hu hE hE' hl hl' he hg ge gg hle hT hc ha
 ·exact Z4q u t n e g l l' c T X Y G N op nx el hu hE hE' hl hl' he hg ge gg hle hT hc ha
 ·exact Z4r u t n e g l l' c T X Y G N op nx el hu hE hE' hl hl' he hg ge gg hle hT hc ha
 ·exact Z4s u t n e g l l' c T X Y G N op nx el hu hE hE' hl hl' he hg ge gg hle hT hc ha
 ·exact Z4t u t n e g l l' c T X Y G N op nx el hu hE hE' hl hl' he hg ge gg hle hT hc ha
 ·exact Z4u u t n e g l l' c T X Y G N op nx el hu hE hE' hl hl' he hg ge gg hle hT hc ha
 ·exact Z4v u t n e g l l' c T X Y G N op nx el hu hE hE' hl hl' he hg ge gg hle hT hc ha
 ·exact Z4w u t n e g l l' c T X Y G N op nx el hu hE hE' hl hl' he hg ge gg hle hT hc ha
 ·exact Z4x u t n e g l l' c T X Y G N op nx el hu hE hE' hl hl' he hg ge gg hle hT hc ha
 ·exact Z20 u t n e g l l' c T X Y G N op nx el hu hE hE' hl hl' he hg ge gg hle hT hc ha
 ·exact Z21 u t n e g l l' c T X Y G N op nx el hu hE hE' hl hl' he hg ge gg hle hT hc ha
 ·exact Z22 u t n e g l l' c T X Y G N op nx el hu hE hE' hl hl' he hg ge gg hle hT hc ha
 ·exact Z23 u t n e g l l' c T X Y G N op nx el hu hE hE' hl hl' he hg ge gg hle hT hc ha
 ·exact Z24 u t n e g l l' c T X Y G N op nx el hu hE hE' hl hl' he hg ge gg hle hT hc ha
section
variable {u:U} {t:Int} {l l':List En} {st:List Int} {c:C}
theorem ZTi (hu:unitOK u) (ht:0≤t) (hl:tabOK l) (hl':tabOK l') (hn:l.length≤1000) (hn':l'.length≤1000) (hT:leT l l') (hc:u.2.2.2[t.toNat]? = some c) {e g:E} (he:okE u t e) (hg:okE u t g) (hle:leO e g) {i:Nat} (hi:i<c.2.length) :
  mo (outV u t i e l) (outV u t i g l'):=by
 obtain ⟨p1,_,p3,_⟩:=Znh hu ht hl hn hc he hi
 obtain ⟨q1,_,q3,_⟩:=Znh hu ht hl' hn' hc hg hi
 cases e1:e.1
 ·rw [p3.off e1]
  exact ⟨KG _,KG _,Nat.zero_le _,Nat.zero_le _⟩
 ·have k:=hle e1
  obtain ⟨x,y,h1,h2,m⟩:=Z2K u t (i:Int) e g l l' ht hu hl.e hl'.e hn hn' (he.env e1) (hg.env k.on) e1 k hT (by omega) c hc (by omega)
  rw [p1] at h1;rw [q1] at h2
  cases h1;cases h2
  exact ⟨m.nx,m.el,m.aln,m.ac⟩
theorem ZOr (hu:unitOK u) (ht:0≤t) (hl:tabOK l) (hn:l.length≤1000) (hc:u.2.2.2[t.toNat]? = some c) {e:E} (he:e.1=true→envOK u t e) {i:Nat} {d:A} (hd:c.2[i]? = some d):outV u t i e l=oV u t i e l d:=by
 unfold outV
 rw [Z4g hu ht hl hn he (n:=(i:Int)) (by omega) hc (by rw [tN0];exact hd)]
 rfl
end
end
section
open Go.Proofs
theorem ZDa {a b:I} (ha:Zd a=false) (hb:Zd b=false) (h:leqB b a=true):Zg a b=a:=by
 rw [QE] at h
 have ka:=ZS ha
 have kb:=ZS hb
 unfold Zg
 rw [ha,hb]
 unfold sub at h
 obtain ⟨a1,a2⟩:=a
 obtain ⟨b1,b2⟩:=b
 simp only [Bool.false_eq_true,if_false] at *
 rw [Prod.mk.injEq]
 simp only [mn,mx]
 constructor<;>(repeat' split)<;>omega
theorem ZOW {a b:List I} (h:leR b a) (ha:∀ x∈a,Zd x=false) (hb:∀ x∈b,Zd x=false):zipI Zg a b=a:=by
 apply List.ext_getElem?
 intro i
 unfold zipI
 rw [List.getElem?_mapIdx]
 cases e:a[i]? with
 | none=>rfl
 | some x=>
  have hi:i<b.length:=by rw [h.1];exact (List.getElem?_eq_some_iff.1 e).1
  have eb:b[i]? = some b[i]:=List.getElem?_eq_getElem hi
  rw [Option.map_some,ZBm eb,ZDa (ha x (mG0 e)) (hb _ (List.getElem_mem hi)) (h.2 i _ _ eb e)]
theorem ZWf {x y:Int} (hx:okB x) (hy:okB y) (h:subB x y):andI x y=x:=by
 rw [Zsd hx hy]
 have:x.toNat &&& y.toNat=x.toNat:=Nat.eq_of_testBit_eq fun i=>by
  rw [Nat.testBit_and]
  cases q:x.toNat.testBit i
  ·rfl
  ·rw [h i q];rfl
 rw [this]
 unfold okB at hx
 omega
theorem Z4C {x y:Int} (hx:okB x) (hy:okB y) (h:subB y x):orI x y=x:=by
 rw [ZI6 hx hy]
 have:x.toNat ||| y.toNat=x.toNat:=Nat.eq_of_testBit_eq fun i=>by
  rw [Nat.testBit_or]
  cases q:y.toNat.testBit i
  ·rw [Bool.or_false]
  ·rw [h i q];rfl
 rw [this]
 unfold okB at hx
 omega
theorem ZOh {a b z:List I} (h:leR a z) (k:leR b z):leR (zipI Zg a b) z:=by
 refine ⟨by rw [Zww];exact h.1,fun i x w hx hw=>?_⟩
 obtain ⟨x',h1,rfl⟩:=ZUe hx
 have hi:i<b.length:=by rw [k.1];exact (List.getElem?_eq_some_iff.1 hw).1
 have eb:b[i]? = some b[i]:=List.getElem?_eq_getElem hi
 rw [ZBm eb]
 exact ZSU (h.2 i _ _ h1 hw) (k.2 i _ _ eb hw)
def leL (a b:List E):Prop:=a.length=b.length∧∀ (i:Nat) (x y:E),a[i]? = some x→b[i]? = some y→leO x y
def comeF (to:Int) (e:E) (es:List E):List E:=bif e.1 then es.set to.toNat (eJoin Zg ((es[to.toNat]?).getD offE) e) else es
section
variable {u:U} {t:Int} {l l':List En} {st:List Int} {c:C} {a b z:E}
theorem Z25 (ha:a.1=true) (oa:envOK u t a) (ob:envOK u t b) (h:leE b a):mrg Zg a b=a:=by
 obtain ⟨on,V,G,A,m,y⟩:=a
 cases ha
 unfold mrg
 have e1:=ZOW h.v (fun x k=>(envV oa x k).2) fun x k=>(envV ob x k).2
 have e2:=ZOW h.g (fun x k=>(envG oa x k).2) fun x k=>(envG ob x k).2
 have e3:=ZOW h.a (fun x k=>(envA oa x k).2) fun x k=>(envA ob x k).2
 have e4:=ZWf oa.must ob.must h.must
 have e5:=Z4C oa.may ob.may h.may
 simp only at e1 e2 e3 e4 e5 ⊢
 rw [e1,e2,e3,e4,e5]
theorem ZZ1 (oa:envOK u t a) (ob:envOK u t b) (oz:envOK u t z) (h:leE a z) (k:leE b z):leE (mrg Zg a b) z:=by
 refine ⟨h.on,ZOh h.v k.v,ZOh h.g k.g,ZOh h.a k.a,fun i q=>?_,fun i q=>?_⟩
 ·show (andI a.2.2.2.2.1 b.2.2.2.2.1).toNat.testBit i=true
  rw [Zsd oa.must ob.must,tN0,Nat.testBit_and,h.must i q,k.must i q];rfl
 ·have q:(orI a.2.2.2.2.2 b.2.2.2.2.2).toNat.testBit i=true:=q
  rw [ZI6 oa.may ob.may,tN0,Nat.testBit_or,Bool.or_eq_true] at q
  exact q.elim (h.may i) (k.may i)
theorem ZYj (oa:a.1=true→envOK u t a) (ob:b.1=true→envOK u t b) (oz:z.1=true→envOK u t z) (h:leO a z) (k:leO b z):leO (eJoin Zg a b) z:=by
 unfold eJoin
 cases ea:a.1<;>cases eb:b.1<;>simp only [cond_true,cond_false]
 ·exact KG _
 ·exact k
 ·exact h
 ·exact fun _=>ZZ1 (oa ea) (ob eb) (oz (h ea).on) (h ea) (k eb)
theorem ZPV (a:E):sameE a a=true:=by
 unfold sameE
 cases a.1<;>simp
theorem ZSc {fr to:Int} {e y:E} {es:List E} {ns:List Int} (oy:okE u t y) (oe:e.1=true→envOK u t e) (hf:e.1=true→fr<to) (g1:es[to.toNat]? = some y) (hl:ns.length=es.length) (h:leO e y):comeV st fr to e es ns=(false,es,ns):=by
 have h1:=(List.getElem?_eq_some_iff.1 g1).1
 have g2:ns[to.toNat]? = some (ns[to.toNat]'(by omega)):=List.getElem?_eq_getElem _
 generalize ns[to.toNat]'(by omega)=n at g2
 unfold comeV
 cases he1:e.1
 ·simp only [g1,g2]
 ·have k:=h he1
  have hn:nxtV st fr to y e n=y:=by
   unfold nxtV
   rw [if_neg (fun q=>by have:=hf he1;omega)]
   unfold eJoin
   rw [he1,k.on]
   exact Z25 k.on (oy.env k.on) (oe he1) k
  simp only [g1,g2,hn,ZPV,cond_true]
theorem ZWk {fr to:Int} {e:E} {es:List E} {ns:List Int} (hes:∀ x∈es,okE u t x) (oe:e.1=true→envOK u t e) (hf:e.1=true→fr<to) (h1:to.toNat<es.length) (hl:ns.length=es.length) :
  (comeV st fr to e es ns).2=(comeF to e es,ns):=by
 have g1:es[to.toNat]? = some es[to.toNat]:=List.getElem?_eq_getElem h1
 have g2:ns[to.toNat]? = some (ns[to.toNat]'(by omega)):=List.getElem?_eq_getElem _
 have ho:=hes _ (List.getElem_mem h1)
 generalize es[to.toNat]=old at g1 ho
 generalize ns[to.toNat]'(by omega)=n at g2
 unfold comeV comeF
 cases he1:e.1
 ·simp only [g1,g2];rfl
 ·have hx:=hf he1
  have hn:nxtV st fr to old e n=eJoin Zg old e:=by
   unfold nxtV
   rw [if_neg (fun q=>by omega)]
  have on:(eJoin Zg old e).1=true:=ZlD he1
  simp only [g1,g2,hn,Option.getD_some,cond_true]
  cases q:sameE (eJoin Zg old e) old
  ·simp only [cond_false,if_neg (show ¬ to≤fr by omega)]
  ·simp only [cond_true]
   rw [ZXD on q]
   have:es.set to.toNat old=es:=List.ext_getElem? fun i=>by
    by_cases w:to.toNat=i
    ·subst w;rw [List.getElem?_set_self h1,g1]
    ·rw [List.getElem?_set_ne w]
   rw [this]
theorem ZmN {to:Int} {e:E} {es:List E} (hes:∀ x∈es,okE u t x) (oe:e.1=true→envOK u t e) (h1:to.toNat<es.length) :
  (∀ x∈comeF to e es,okE u t x)∧(comeF to e es).length=es.length∧upL es (comeF to e es)∧(∀ i,i≠to.toNat→(comeF to e es)[i]? = es[i]?)∧((e.1=false→comeF to e es=es)∧∃ x,(comeF to e es)[to.toNat]? = some x∧leO e x):=by
 have g1:es[to.toNat]? = some es[to.toNat]:=List.getElem?_eq_getElem h1
 have ho:=hes _ (List.getElem_mem h1)
 unfold comeF
 cases he1:e.1
 ·rw [cond_false]
  exact ⟨hes,rfl,ZEF _,fun i _=>rfl,fun _=>rfl,_,g1,fun k=>by rw [he1] at k;cases k⟩
 ·simp only [cond_true,g1,Option.getD_some]
  generalize es[to.toNat]=old at g1 ho
  have on:(eJoin Zg old e).1=true:=ZlD he1
  refine ⟨fun x hx=>?_,by simp,fun i x hx=>?_,fun i hi=>List.getElem?_set_ne (Ne.symm hi),(fun k=>nomatch k),_,List.getElem?_set_self h1,fun _=>ZHK Zns ho.env he1 (oe he1)⟩
  ·rcases List.mem_or_eq_of_mem_set hx with k | rfl
   ·exact hes x k
   ·exact .inr ⟨on,ZmQ Zxh ho.env oe on⟩
  ·by_cases q:to.toNat=i
   ·subst q
    rw [g1] at hx;cases hx
    exact ⟨_,List.getElem?_set_self h1,fun k=>ZHJ Zns k (ho.env k) oe⟩
   ·exact ⟨x,by rw [List.getElem?_set_ne q];exact hx,Zxb x⟩
theorem ZMc {to:Int} {e e':E} {es es':List E} (hes:∀ x∈es,okE u t x) (hes':∀ x∈es',okE u t x) (oe:e.1=true→envOK u t e) (oe':e'.1=true→envOK u t e') (h1:to.toNat<es.length) (h:leL es es') (k:leO e e') :
  leL (comeF to e es) (comeF to e' es'):=by
 have h1':to.toNat<es'.length:=by rw [← h.1];exact h1
 obtain ⟨p1,p2,p3,p4,p5,x0,p6,p7⟩:=ZmN hes oe h1
 obtain ⟨q1,q2,q3,q4,q5,y0,q6,q7⟩:=ZmN hes' oe' h1'
 refine ⟨by rw [p2,q2];exact h.1,fun i x y hx hy=>?_⟩
 by_cases w:i=to.toNat
 ·subst w
  have g1:es[to.toNat]? = some es[to.toNat]:=List.getElem?_eq_getElem h1
  have g1':es'[to.toNat]? = some es'[to.toNat]:=List.getElem?_eq_getElem h1'
  obtain ⟨y1,hy1,up⟩:=q3 _ _ g1'
  have ey:y1=y:=by rw [hy] at hy1;exact (Option.some.inj hy1).symm
  have ez:y0=y:=by rw [hy] at q6;exact (Option.some.inj q6).symm
  rw [ey] at up
  rw [ez] at q7
  have lo:=Zpx (h.2 _ _ _ g1 g1') up
  cases he1:e.1
  ·rw [p5 he1,g1] at hx;cases hx
   exact lo
  ·have oy:=(q1 y (mG0 hy)).env
   have ho:=(hes _ (List.getElem_mem h1)).env
   have:x=eJoin Zg es[to.toNat] e:=by
    unfold comeF at hx
    rw [he1] at hx
    simp only [cond_true,g1,Option.getD_some] at hx
    rw [List.getElem?_set_self h1] at hx
    exact (Option.some.inj hx).symm
   rw [this]
   exact ZYj ho oe oy lo (Zpx k q7)
 ·rw [p4 i w] at hx
  rw [q4 i w] at hy
  exact h.2 i x y hx hy
end
end
section
open Go.Proofs
def fwd (c:C):Prop:=∀ (i:Nat) (d:A),c.2[i]? = some d→d.1≠13→d.1≠14→(i:Int)<d.2.2.2.2.2.2.2.1∧(d.1=11→(i:Int)<d.2.2.2.2.2.2.2.2)
def nodeF (u:U) (t:Int) (l:List En) (i:Nat) (es:List E) (d:A):List E:=
 comeF d.2.2.2.2.2.2.2.2 (outV u t i ((es[i]?).getD offE) l).2.1 (comeF d.2.2.2.2.2.2.2.1 (outV u t i ((es[i]?).getD offE) l).1 es)
def ZbC (u:U) (t:Int) (l:List En) (i:Nat) (r:List A) (es:List E):List E:=ZK (fun i es d=>nodeF u t l i es d) i r es
section
variable {u:U} {t:Int} {l l':List En} {st:List Int} {c:C}
theorem Z4D (hu:unitOK u) (ht:0≤t) (hl:tabOK l) (hn:l.length≤1000) (hc:u.2.2.2[t.toNat]? = some c) (hf:fwd c) {e:E} (he:e.1=true→envOK u t e) {i:Nat} {d:A} (hd:c.2[i]? = some d) :
  ((outV u t i e l).1.1=true→(i:Int)<d.2.2.2.2.2.2.2.1)∧((outV u t i e l).2.1.1=true→(i:Int)<d.2.2.2.2.2.2.2.2):=by
 rw [ZOr hu ht hl hn hc he hd]
 obtain ⟨k1,k2⟩:=Z3d (u:=u) (t:=t) (n:=(i:Int)) (e:=e) (l:=l) d
 refine ⟨fun h=>(hf i d hd (k1 h).1 (k1 h).2).1,fun h=>?_⟩
 have:=k2 h
 exact (hf i d hd (by omega) (by omega)).2 this
theorem ZOo (hu:unitOK u) (ht:0≤t) (hl:tabOK l) (hn:l.length≤1000) (hc:u.2.2.2[t.toNat]? = some c) (hf:fwd c) {b:Bool} {es:List E} {ns:List Int} (v:Inv u t c.2.length es ns) {i:Nat} {d:A} (hd:c.2[i]? = some d) :
  (nodeV u t l st i (b,es,ns) d).2=(nodeF u t l i es d,ns)∧(∀ x∈nodeF u t l i es d,okE u t x)∧(nodeF u t l i es d).length=es.length∧upL es (nodeF u t l i es d)∧(∀ j,j≤i→(nodeF u t l i es d)[j]? = es[j]?)∧Vs u t l (nodeF u t l i es d) i d ∧
  (Vs u t l es i d→nodeV u t l st i (b,es,ns) d=(b,es,ns)):=by
 have hi:=(List.getElem?_eq_some_iff.1 hd).1
 have ha:=(hu.ts c (mG0 hc)).a d (mG0 hd)
 have hx:=ha.nx
 have hy:=ha.el
 have ve:=v.le
 have vn:=v.ln
 have hie:i<es.length:=by omega
 have ge:es[i]? = some es[i]:=List.getElem?_eq_getElem hie
 have oe:=v.ok _ (List.getElem_mem hie)
 obtain ⟨_,_,o3,_⟩:=Znh hu ht hl hn hc oe hi
 obtain ⟨f1,f2⟩:=Z4D hu ht hl hn hc hf oe.env hd
 have cl:∀ es',es'[i]? = es[i]?→(Vs u t l es' i d↔∃ x y,es'[d.2.2.2.2.2.2.2.1.toNat]? = some x∧es'[d.2.2.2.2.2.2.2.2.toNat]? = some y∧leO (outV u t i es[i] l).1 x∧leO (outV u t i es[i] l).2.1 y):=fun es' h=>by
  unfold Vs
  rw [h]
  simp only [ge,Option.getD_some]
 have c0:=cl es rfl
 have hN:nodeV u t l st i (b,es,ns) d=(b||(comeV st i d.2.2.2.2.2.2.2.1 (outV u t i es[i] l).1 es ns).1||(comeV st i d.2.2.2.2.2.2.2.2 (outV u t i es[i] l).2.1 (comeV st i d.2.2.2.2.2.2.2.1 (outV u t i es[i] l).1 es ns).2.1 (comeV st i d.2.2.2.2.2.2.2.1 (outV u t i es[i] l).1 es ns).2.2).1,
   (comeV st i d.2.2.2.2.2.2.2.2 (outV u t i es[i] l).2.1 (comeV st i d.2.2.2.2.2.2.2.1 (outV u t i es[i] l).1 es ns).2.1 (comeV st i d.2.2.2.2.2.2.2.1 (outV u t i es[i] l).1 es ns).2.2).2):=by
  unfold nodeV
  simp only [ge,Option.getD_some]
 have hF:nodeF u t l i es d=comeF d.2.2.2.2.2.2.2.2 (outV u t i es[i] l).2.1 (comeF d.2.2.2.2.2.2.2.1 (outV u t i es[i] l).1 es):=by
  unfold nodeF
  simp only [ge,Option.getD_some]
 rw [hN,hF]
 generalize outV u t i es[i] l=o at *
 clear hN hF
 obtain ⟨p1,p2,p3,p4,p5,x0,p6,p7⟩:=ZmN (to:=d.2.2.2.2.2.2.2.1) v.ok o3.nx (by omega)
 obtain ⟨q1,q2,q3,q4,q5,y0,q6,q7⟩:=ZmN (to:=d.2.2.2.2.2.2.2.2) p1 o3.el (by omega)
 have w1:=ZWk (st:=st) (fr:=(i:Int)) (to:=d.2.2.2.2.2.2.2.1) (ns:=ns) v.ok o3.nx f1 (by omega) (by omega)
 have w2:=ZWk (st:=st) (fr:=(i:Int)) (to:=d.2.2.2.2.2.2.2.2) (ns:=ns) p1 o3.el f2 (by omega) (by omega)
 have keep:∀ j,j≤i→(comeF d.2.2.2.2.2.2.2.2 o.2.1 (comeF d.2.2.2.2.2.2.2.1 o.1 es))[j]? = es[j]?:=fun j hj=>by
  have a1:(comeF d.2.2.2.2.2.2.2.1 o.1 es)[j]? = es[j]?:=by
   cases q:o.1.1
   ·rw [p5 q]
   ·have:=f1 q
    exact p4 j (by omega)
  rw [← a1]
  cases q:o.2.1.1
  ·rw [q5 q]
  ·have:=f2 q
   exact q4 j (by omega)
 refine ⟨?_,q1,q2.trans p2,Zzo p3 q3,keep,?_,fun h=>?_⟩
 ·rw [w1];exact w2
 ·rw [cl _ (keep i (Nat.le_refl _))]
  obtain ⟨x1,g1,l1⟩:=q3 _ _ p6
  exact ⟨x1,y0,g1,q6,Zpx p7 l1,q7⟩
 ·obtain ⟨x,y,gx,gy,lx,ly⟩:=c0.1 h
  have a1:=ZSc (st:=st) (fr:=(i:Int)) (v.ok x (mG0 gx)) o3.nx f1 gx (by omega:ns.length=es.length) lx
  have a2:=ZSc (st:=st) (fr:=(i:Int)) (v.ok y (mG0 gy)) o3.el f2 gy (by omega:ns.length=es.length) ly
  rw [a1,a2]
  cases b<;>rfl
theorem ZTs (hu:unitOK u) (ht:0≤t) (hl:tabOK l) (hn:l.length≤1000) (hc:u.2.2.2[t.toNat]? = some c) (hf:fwd c):∀ (r:List A) (i:Nat) (b:Bool) (es:List E) (ns:List Int),c.2.drop i=r→Inv u t c.2.length es ns→(∀ (j:Nat) (d:A),j<i→c.2[j]? = some d→Vs u t l es j d)→
  (ZK (fun i s d=>nodeV u t l st i s d) i r (b,es,ns)).2=(ZbC u t l i r es,ns)∧Inv u t c.2.length (ZbC u t l i r es) ns∧∀ (j:Nat) (d:A),c.2[j]? = some d→Vs u t l (ZbC u t l i r es) j d
 | [],i,b,es,ns,hd,v,hC=>by
  refine ⟨rfl,v,fun j d hj=>hC j d ?_ hj⟩
  have:=(List.getElem?_eq_some_iff.1 hj).1
  have:c.2.length≤i:=by
   have:=congrArg List.length hd
   rw [List.length_drop] at this
   simp at this
   omega
  omega
 | d::r,i,b,es,ns,hd,v,hC=>by
  have e:c.2[i]? = some d:=by
   have:=congrArg (fun q=>q[0]?) hd
   simpa using this
  obtain ⟨n1,n2,n3,n4,n5,n6,_⟩:=ZOo (st:=st) (b:=b) hu ht hl hn hc hf v e
  have ih:=ZTs hu ht hl hn hc hf r (i+1) (nodeV u t l st i (b,es,ns) d).1 (nodeF u t l i es d) ns (by rw [← List.drop_drop,hd];rfl) ⟨n2,n3.trans v.le,v.ln⟩ (fun j d' hj hd'=>?_)
  ·rw [ZK]
   have:nodeV u t l st i (b,es,ns) d=((nodeV u t l st i (b,es,ns) d).1,nodeF u t l i es d,ns):=Prod.ext rfl n1
   rw [this]
   exact ih
  ·by_cases q:j=i
   ·subst q
    rw [e] at hd';cases hd'
    exact n6
   ·obtain ⟨x,y,gx,gy,lx,ly⟩:=hC j d' (by omega) hd'
    obtain ⟨x1,gx1,lx1⟩:=n4 _ _ gx
    obtain ⟨y1,gy1,ly1⟩:=n4 _ _ gy
    unfold Vs
    rw [n5 j (by omega)]
    exact ⟨x1,y1,gx1,gy1,Zpx lx lx1,Zpx ly ly1⟩
theorem ZKD (hu:unitOK u) (ht:0≤t) (hl:tabOK l) (hn:l.length≤1000) (hc:u.2.2.2[t.toNat]? = some c) (hf:fwd c) {es:List E} {ns:List Int} (v:Inv u t c.2.length es ns) (hC:∀ (j:Nat) (d:A),c.2[j]? = some d→Vs u t l es j d):∀ (r:List A) (i:Nat) (b:Bool),c.2.drop i=r→
  ZK (fun i s d=>nodeV u t l st i s d) i r (b,es,ns)=(b,es,ns)
 | [],i,b,hd=>rfl
 | d::r,i,b,hd=>by
  have e:c.2[i]? = some d:=by
   have:=congrArg (fun q=>q[0]?) hd
   simpa using this
  rw [ZK,(ZOo (st:=st) (b:=b) hu ht hl hn hc hf v e).2.2.2.2.2.2 (hC i d e)]
  exact ZKD hu ht hl hn hc hf v hC r (i+1) b (by rw [← List.drop_drop,hd];rfl)
theorem ZSl (hu:unitOK u) (ht:0≤t) (hl:tabOK l) (hn:l.length≤1000) (hc:u.2.2.2[t.toNat]? = some c) (hf:fwd c):(endV u t l st c).1=ZbC u t l 0 c.2 (es0 u c)∧(endV u t l st c).2.2.2=true∧Inv u t c.2.length (ZbC u t l 0 c.2 (es0 u c)) (ns0 c):=by
 obtain ⟨r1,r2,r3⟩:=ZTs (st:=st) hu ht hl hn hc hf c.2 0 false (es0 u c) (ns0 c) rfl (ZSN hu hc) (fun j d h=>absurd h (by omega))
 have r1:(Z5 u t l st c (es0 u c) (ns0 c)).2=(ZbC u t l 0 c.2 (es0 u c),ns0 c):=r1
 have s:=fun b=>ZKD (st:=st) hu ht hl hn hc hf r2 r3 c.2 0 b rfl
 have s:Z5 u t l st c (ZbC u t l 0 c.2 (es0 u c)) (ns0 c)=(false,ZbC u t l 0 c.2 (es0 u c),ns0 c):=s false
 have e:endV u t l st c=runV u t l st c 99 (Z5 u t l st c (es0 u c) (ns0 c)).2.1 (Z5 u t l st c (es0 u c) (ns0 c)).2.2 1 (!(Z5 u t l st c (es0 u c) (ns0 c)).1):=rfl
 rw [r1] at e
 cases q:(Z5 u t l st c (es0 u c) (ns0 c)).1
 ·rw [q] at e
  have e:endV u t l st c=(ZbC u t l 0 c.2 (es0 u c),ns0 c,1,true):=e
  rw [e]
  exact ⟨rfl,rfl,r2⟩
 ·rw [q] at e
  have e:endV u t l st c=runV u t l st c 98 (Z5 u t l st c (ZbC u t l 0 c.2 (es0 u c)) (ns0 c)).2.1 (Z5 u t l st c (ZbC u t l 0 c.2 (es0 u c)) (ns0 c)).2.2 2 (!(Z5 u t l st c (ZbC u t l 0 c.2 (es0 u c)) (ns0 c)).1):=e
  rw [s] at e
  have e:endV u t l st c=(ZbC u t l 0 c.2 (es0 u c),ns0 c,2,true):=e
  rw [e]
  exact ⟨rfl,rfl,r2⟩
theorem ZMW (hu:unitOK u) (ht:0≤t) (hl:tabOK l) (hl':tabOK l') (hn:l.length≤1000) (hn':l'.length≤1000) (hT:leT l l') (hc:u.2.2.2[t.toNat]? = some c) (hf:fwd c):∀ (r:List A) (i:Nat) (es es':List E),c.2.drop i=r→(∀ x∈es,okE u t x)→(∀ x∈es',okE u t x)→es.length=c.2.length→leL es es'→
  leL (ZbC u t l i r es) (ZbC u t l' i r es')
 | [],i,es,es',hd,v,v',hk,h=>h
 | d::r,i,es,es',hd,v,v',hk,h=>by
  have e:c.2[i]? = some d:=by
   have:=congrArg (fun q=>q[0]?) hd
   simpa using this
  have hi:=(List.getElem?_eq_some_iff.1 e).1
  have ha:=(hu.ts c (mG0 hc)).a d (mG0 e)
  have hx:=ha.nx
  have hy:=ha.el
  have hk':es'.length=c.2.length:=by rw [← h.1];exact hk
  have ge:es[i]? = some (es[i]'(by omega)):=List.getElem?_eq_getElem (by omega)
  have ge':es'[i]? = some (es'[i]'(by omega)):=List.getElem?_eq_getElem (by omega)
  have oe:=v _ (List.getElem_mem (h:=(by omega:i<es.length)))
  have oe':=v' _ (List.getElem_mem (h:=(by omega:i<es'.length)))
  have m:=ZTi hu ht hl hl' hn hn' hT hc oe oe' (h.2 i _ _ ge ge') hi
  obtain ⟨_,_,o3,_⟩:=Znh hu ht hl hn hc oe hi
  obtain ⟨_,_,o3',_⟩:=Znh hu ht hl' hn' hc oe' hi
  have hF:nodeF u t l i es d=comeF d.2.2.2.2.2.2.2.2 (outV u t i es[i] l).2.1 (comeF d.2.2.2.2.2.2.2.1 (outV u t i es[i] l).1 es):=by
   unfold nodeF
   simp only [ge,Option.getD_some]
  have hF':nodeF u t l' i es' d=comeF d.2.2.2.2.2.2.2.2 (outV u t i es'[i] l').2.1 (comeF d.2.2.2.2.2.2.2.1 (outV u t i es'[i] l').1 es'):=by
   unfold nodeF
   simp only [ge',Option.getD_some]
  show leL (ZbC u t l (i+1) r (nodeF u t l i es d)) (ZbC u t l' (i+1) r (nodeF u t l' i es' d))
  rw [hF,hF']
  generalize outV u t i es[i] l=o at *
  generalize outV u t i es'[i] l'=o' at *
  obtain ⟨p1,p2,_⟩:=ZmN (to:=d.2.2.2.2.2.2.2.1) v o3.nx (by omega)
  obtain ⟨p1',p2',_⟩:=ZmN (to:=d.2.2.2.2.2.2.2.1) v' o3'.nx (by omega)
  obtain ⟨q1,q2,_⟩:=ZmN (to:=d.2.2.2.2.2.2.2.2) p1 o3.el (by omega)
  obtain ⟨q1',q2',_⟩:=ZmN (to:=d.2.2.2.2.2.2.2.2) p1' o3'.el (by omega)
  have m1:=ZMc (to:=d.2.2.2.2.2.2.2.1) v v' o3.nx o3'.nx (by omega) h m.nx
  have m2:=ZMc (to:=d.2.2.2.2.2.2.2.2) p1 p1' o3.el o3'.el (by omega) m1 m.el
  exact ZMW hu ht hl hl' hn hn' hT hc hf r (i+1) _ _ (by rw [← List.drop_drop,hd];rfl) q1 q1' (by omega) m2
theorem ZSE (hu:unitOK u) (ht:0≤t) (hl:tabOK l) (hl':tabOK l') (hn:l.length≤1000) (hn':l'.length≤1000) (hT:leT l l') (hc:u.2.2.2[t.toNat]? = some c) {es es':List E} (v:∀ x∈es,okE u t x) (v':∀ x∈es',okE u t x) (hk:es.length=c.2.length) (h:leL es es'):∀ (r:List A) (i:Nat) (s s':Ga),c.2.drop i=r→s.2.1.length≤s'.2.1.length→s.2.2.length≤s'.2.2.length→
  (gatV u t l es i r s).2.1.length≤(gatV u t l' es' i r s').2.1.length∧(gatV u t l es i r s).2.2.length≤(gatV u t l' es' i r s').2.2.length
 | [],i,s,s',hd,h1,h2=>⟨h1,h2⟩
 | d::r,i,s,s',hd,h1,h2=>by
  have e:c.2[i]? = some d:=by
   have:=congrArg (fun q=>q[0]?) hd
   simpa using this
  have hi:=(List.getElem?_eq_some_iff.1 e).1
  have hk':es'.length=c.2.length:=by rw [← h.1];exact hk
  have ge:es[i]? = some (es[i]'(by omega)):=List.getElem?_eq_getElem (by omega)
  have ge':es'[i]? = some (es'[i]'(by omega)):=List.getElem?_eq_getElem (by omega)
  have m:=ZTi hu ht hl hl' hn hn' hT hc (v _ (List.getElem_mem (h:=(by omega:i<es.length)))) (v' _ (List.getElem_mem (h:=(by omega:i<es'.length)))) (h.2 i _ _ ge ge') hi
  have hV:gatV u t l es i (d::r) s=gatV u t l es (i+1) r (gatN t i s (outV u t i es[i] l)):=by
   show ZK _ _ _ _=_
   rw [ZK]
   simp only [ge,Option.getD_some]
   rfl
  have hV':gatV u t l' es' i (d::r) s'=gatV u t l' es' (i+1) r (gatN t i s' (outV u t i es'[i] l')):=by
   show ZK _ _ _ _=_
   rw [ZK]
   simp only [ge',Option.getD_some]
   rfl
  rw [hV,hV']
  refine ZSE hu ht hl hl' hn hn' hT hc v v' hk h r (i+1) _ _ (by rw [← List.drop_drop,hd];rfl) ?_ ?_
  ·simp only [gatN,List.length_append];have:=m.ac;omega
  ·simp only [gatN,List.length_append,List.length_map];have:=m.al;omega
end
end
theorem ZNi {u:U} {t:Int} (h:0≤t∧t<(u.2.2.2.length:Int)):∃ c,u.2.2.2[t.toNat]? = some c:=⟨u.2.2.2[t.toNat]'(by omega),List.getElem?_eq_getElem _⟩
section
open Go.Proofs
def rowsB (a b:List I):Bool:=allIx (fun i x=>leqB x (rowAt b i)) 0 a
theorem ZTa (a b:List I) (ha:a.length≤1000):ZmY a b=some (rowsB a b):=by
 unfold ZmY
 rw [ZqU b a () (by omega)]
 unfold ZeK
 rw [Vo (p:=fun i x=>leqB x (rowAt b i)) (o:=.inr false) a 0 fun j d hd=>?_]
 ·unfold rowsB
  cases allIx (fun i x=>leqB x (rowAt b i)) 0 a<;>rfl
 ·unfold WS
  simp only [YB,ZzV,Zb,JX,ZkI]
  cases leqB d (rowAt b (0+j))<;>rfl
theorem ZLH {a b:List I} (hl:a.length=b.length):rowsB a b=true↔leR a b:=by
 unfold rowsB
 rw [Zpo]
 constructor
 ·intro h
  refine ⟨hl,fun i x y hx hy=>?_⟩
  have:=h i x hx
  rwa [Nat.zero_add,ZBm hy] at this
 ·intro h j d hd
  have hj:j<b.length:=by rw [← hl];exact (List.getElem?_eq_some_iff.1 hd).1
  rw [Nat.zero_add,ZBm (List.getElem?_eq_getElem hj)]
  exact h.2 j d _ hd (List.getElem?_eq_getElem hj)
theorem ZJf {a b:Int} (ha:okB a) (hb:okB b):(andI a b==a)=true↔subB a b:=by
 rw [beq_iff_eq]
 refine ⟨fun h=>?_,ZWf ha hb⟩
 have:=Z2n ha hb
 rwa [h] at this
theorem ZT9 {a b:Int} (ha:okB a) (hb:okB b):(IntKind.i64.wrap ((BitVec.ofInt IntKind.i64.bits a &&& ~~~BitVec.ofInt IntKind.i64.bits b).toNat:Int)==0)=true↔subB a b:=by
 refine ⟨fun h=>?_,ZIP ha hb⟩
 unfold okB at *
 obtain ⟨r,h1,h2,h3⟩:=ZKY (a:=a.toNat) (b:=b.toNat) (by omega) (by omega)
 rw [show ((a.toNat:Nat):Int)=a by omega,show ((b.toNat:Nat):Int)=b by omega] at h1
 rw [h1,beq_iff_eq] at h
 have hr:r=0:=by omega
 intro i q
 have:=h3 i
 rw [hr,Nat.zero_testBit,q,Bool.true_and] at this
 simpa using this.symm
def leEB (x y:E):Bool:=bif !x.1 then true else bif y.1 then rowsB x.2.1 y.2.1&&(rowsB x.2.2.1 y.2.2.1&&(rowsB x.2.2.2.1 y.2.2.2.1&&(andI y.2.2.2.2.1 x.2.2.2.2.1==y.2.2.2.2.1&&andI x.2.2.2.2.2 y.2.2.2.2.2==x.2.2.2.2.2))) else false
section
variable {u:U} {t:Int} {x y:E}
theorem ZqM (hu:unitOK u) (hx:x.1=true→envOK u t x) (hy:y.1=true→envOK u t y):ZoB x y=some (leEB x y):=by
 unfold ZoB leEB
 cases x1:x.1
 ·rfl
 have ox:=hx x1
 have s:=Zqi hu ox
 cases y1:y.1
 ·rfl
 have oy:=hy y1
 have e1:(IntKind.i64.wrap ((BitVec.ofInt IntKind.i64.bits y.2.2.2.2.1 &&& ~~~BitVec.ofInt IntKind.i64.bits x.2.2.2.2.1).toNat:Int)==0)=(andI y.2.2.2.2.1 x.2.2.2.2.1==y.2.2.2.2.1):=by
  rw [Bool.eq_iff_iff,ZT9 oy.must ox.must,ZJf oy.must ox.must]
 have e2:(IntKind.i64.wrap ((BitVec.ofInt IntKind.i64.bits x.2.2.2.2.2 &&& ~~~BitVec.ofInt IntKind.i64.bits y.2.2.2.2.2).toNat:Int)==0)=(andI x.2.2.2.2.2 y.2.2.2.2.2==x.2.2.2.2.2):=by
  rw [Bool.eq_iff_iff,ZT9 ox.may oy.may,ZJf ox.may oy.may]
 simp only [Bool.not_true,cond_false,cond_true,Zfn,ZTa _ _ s.1,ZTa _ _ s.2.1,ZTa _ _ s.2.2,Zb,e1,e2]
 cases rowsB x.2.1 y.2.1<;>cases rowsB x.2.2.1 y.2.2.1<;>cases rowsB x.2.2.2.1 y.2.2.2.1<;>(try rfl)
 simp only [cond_true,Bool.true_and]
 cases (andI y.2.2.2.2.1 x.2.2.2.2.1==y.2.2.2.2.1)<;>rfl
theorem ZI4 (hx:x.1=true→envOK u t x) (hy:y.1=true→envOK u t y) (h:leO x y):leEB x y=true:=by
 unfold leEB
 cases x1:x.1
 ·rfl
 have k:=h x1
 have ox:=hx x1
 have oy:=hy k.on
 obtain ⟨l1,l2,l3⟩:=ZN6 ox oy
 rw [k.on,(ZLH l1).2 k.v,(ZLH l2).2 k.g,(ZLH l3).2 k.a,(ZJf oy.must ox.must).2 k.must,(ZJf ox.may oy.may).2 k.may]
 rfl
end
section
variable {u:U} {t:Int} {l:List En} {c:C}
end
end
def ZNY:List Sh:=[.dat tC]
def ZtR:Nat→List Nat:=fun c=>bif c.beq 0 then [1,3,4,5,6] else [1,3,4,5]
def Zm5:Nat→List Nat:=fun c=>bif c.beq 0 then [1,3,4] else [3]
def Zo5:List Con:=[]
def Zgq:StS:=⟨[(1,.ptr 0 0),(3,.row 1),(4,.int .i64),(5,.bool),(6,.int .i64)],[(0,.box [.int .i64,.sl tA]),(1,.row (.int .i64))],2⟩
def Wu:StS:=⟨[(1,.ptr 0 0),(3,.row 1),(4,.int .i64),(5,.bool)],[(0,.box [.int .i64,.sl tA]),(1,.row (.int .i64))],2⟩
abbrev Zbx:=(Int×Bool×Int×Int×(List A)×(List Int))
def ZCN:StD Zgq→Zbx:=fun ((_,_,a,b,c,_),((d,e,_),f,_))=>(a,b,c,d,e,f)
def ZEx:Zbx→StD Zgq:=fun (a,b,c,d,e,f)=>(((),(),a,b,c,()),((d,e,()),f,()))
abbrev Zdx:=(Int×Bool×Int×(List A)×(List Int))
def ZVi:StD Wu→Zdx:=fun ((_,_,a,b,_),((c,d,_),e,_))=>(a,b,c,d,e)
def ZiT:Zdx→StD Wu:=fun (a,b,c,d,e)=>(((),(),a,b,()),((c,d,()),e,()))
def Zk8 (s4:Int) (s5:Bool) (s6 b0:Int) (b0_1:List A) (b1:List Int):Option ((Int×Bool×Int×Int×(List A)×(List Int))⊕(Int×Bool×Int×(List A)×(List Int))):=bif decide (s6<(b0_1.length:Int)) then bif decide (0≤s6) then Za b0_1[s6.toNat]? none fun d10=>bif d10.1 !=14 then bif d10.1 !=13 then bif s5 then some (.inl (s4,true,IntKind.i64.wrap (s6+1),b0,b0_1,b1)) else bif d10.2.2.2.2.2.2.2.1==s4 then some (.inl (s4,true,IntKind.i64.wrap (s6+1),b0,b0_1,b1)) else bif d10.1==11 then some (.inl (s4,d10.2.2.2.2.2.2.2.2==s4,IntKind.i64.wrap (s6+1),b0,b0_1,b1)) else some (.inl (s4,false,IntKind.i64.wrap (s6+1),b0,b0_1,b1)) else some (.inl (s4,s5,IntKind.i64.wrap (s6+1),b0,b0_1,b1)) else some (.inl (s4,s5,IntKind.i64.wrap (s6+1),b0,b0_1,b1)) else none else some (.inr (s4,s5,b0,b0_1,b1))
def Zam:Zbx→Option (Zbx⊕Zdx):=fun (a,b,c,d,e,f)=>Zk8 a b c d e f
def ZfW (x:Zbx):Option Zdx:=Zh Zam Zl x
def Zgp:StS:=⟨[(1,.ptr 0 0),(3,.nil),(4,.int .i64),(5,.bool),(6,.int .i64)],[(0,.box [.int .i64,.sl tA])],1⟩
def Wt:StS:=⟨[(1,.ptr 0 0),(3,.nil),(4,.int .i64),(5,.bool)],[(0,.box [.int .i64,.sl tA])],1⟩
abbrev Zbw:=(Int×Bool×Int×Int×(List A))
def ZCM:StD Zgp→Zbw:=fun ((_,_,a,b,c,_),((d,e,_),_))=>(a,b,c,d,e)
def ZEw:Zbw→StD Zgp:=fun (a,b,c,d,e)=>(((),(),a,b,c,()),((d,e,()),()))
abbrev Zdw:=(Int×Bool×Int×(List A))
def ZVh:StD Wt→Zdw:=fun ((_,_,a,b,_),((c,d,_),_))=>(a,b,c,d)
def ZiS:Zdw→StD Wt:=fun (a,b,c,d)=>(((),(),a,b,()),((c,d,()),()))
def ZD6 (s4:Int) (s5:Bool) (s6 b0:Int) (b0_1:List A):Option ((Int×Bool×Int×Int×(List A))⊕(Int×Bool×Int×(List A))):=bif decide (s6<(b0_1.length:Int)) then bif decide (0≤s6) then Za b0_1[s6.toNat]? none fun d9=>bif d9.1 !=14 then bif d9.1 !=13 then bif s5 then some (.inl (s4,true,IntKind.i64.wrap (s6+1),b0,b0_1)) else bif d9.2.2.2.2.2.2.2.1==s4 then some (.inl (s4,true,IntKind.i64.wrap (s6+1),b0,b0_1)) else bif d9.1==11 then some (.inl (s4,d9.2.2.2.2.2.2.2.2==s4,IntKind.i64.wrap (s6+1),b0,b0_1)) else some (.inl (s4,false,IntKind.i64.wrap (s6+1),b0,b0_1)) else some (.inl (s4,s5,IntKind.i64.wrap (s6+1),b0,b0_1)) else some (.inl (s4,s5,IntKind.i64.wrap (s6+1),b0,b0_1)) else none else some (.inr (s4,s5,b0,b0_1))
def Zrl:Zbw→Option (Zbw⊕Zdw):=fun (a,b,c,d,e)=>ZD6 a b c d e
def ZFl (x:Zbw):Option Zdw:=Zh Zrl Zl x
def ZvA:Nat→Tm→Prog (Nat×Tm):=(varP 0 (fun T h=>(rdS Zgp T h).map ZCM) ZFl (altE 4 Wt ZiS) (varP 0 (fun T h=>(rdS Zgq T h).map ZCN) ZfW (altE 4 Wu ZiT) (fun _ _=>.fail)))
def Zna:Lpc:=⟨27,2,60,(fun base T=>.norm base (ZtR 0) T (ZvA base)),by kernel_rfl,by kernel_rfl,(loopU Zo5 [] 40 1048576 8 (keep:=ZtR) (q:=ZvA) (by kernel_rfl) (Zv (s:=Zgp) (un:=ZEw) (by rfl) (fun _=>rfl) (Zn (s:=Wt) (un:=ZiS) (flat:=ZVh) (by rfl) (fun _=>rfl)) (step:=Zrl) (fun _=>by kernel_rfl) (fun _ _ e=>⟨_,e⟩) (Zm 4 Wt ZiS) (Zv (s:=Zgq) (un:=ZEx) (by rfl) (fun _=>rfl) (Zn (s:=Wu) (un:=ZiT) (flat:=ZVi) (by rfl) (fun _=>rfl)) (step:=Zam) (fun _=>by kernel_rfl) (fun _ _ e=>⟨_,e⟩) (Zm 4 Wu ZiT) (ZB.fail _ _))))⟩
abbrev ZZB:=cxU Zo5 [Zna] 40 1048576
def Zgo:StS:=⟨[(1,.ptr 0 0),(3,.row 1),(4,.int .i64)],[(0,.box [.int .i64,.sl tA]),(1,.row (.int .i64))],2⟩
def Ws:StS:=⟨[(3,.row 0)],[(0,.row (.int .i64))],1⟩
abbrev Zbv:=(Int×Int×(List A)×(List Int))
def ZCL:StD Zgo→Zbv:=fun ((_,_,a,_),((b,c,_),d,_))=>(a,b,c,d)
def ZEv:Zbv→StD Zgo:=fun (a,b,c,d)=>(((),(),a,()),((b,c,()),d,()))
abbrev Zdv:=(List Int)
def ZVg (d:StD Ws):Zdv:=(d.2.1)
def ZiR (x:Zdv):StD Ws:=(((),()),(x,()))
def Zk7 (s4 b0:Int) (b0_1:List A) (b1:List Int):Option ((Int×Int×(List A)×(List Int))⊕(List Int)):=bif decide (s4<(b0_1.length:Int)) then Za (ZfW (s4,false,s4,b0,b0_1,b1)) none fun d8=>bif d8.2.1 then bif decide ((d8.2.2.2.2.length+[d8.1].length+1)*8≤lim) then some (.inl (IntKind.i64.wrap (d8.1+1),d8.2.2.1,d8.2.2.2.1,d8.2.2.2.2++[d8.1])) else none else some (.inl (IntKind.i64.wrap (d8.1+1),d8.2.2.1,d8.2.2.2.1,d8.2.2.2.2)) else some (.inr b1)
def Y2:Zbv→Option (Zbv⊕Zdv):=fun (a,b,c,d)=>Zk7 a b c d
def ZlI (x:Zbv):Option Zdv:=Zh Y2 Zl x
def Zvz:Nat→Tm→Prog (Nat×Tm):=(varP 0 (fun T h=>(rdS Zgo T h).map ZCL) ZlI (altE 2 Ws ZiR) (fun _ _=>.fail))
def ZHY:Lpc:=⟨27,0,60,(ownP [] [(3,(.int .i64))] (Zm5 0) (fun base T=>.norm base (Zm5 0) T (Zvz base))),by kernel_rfl,by kernel_rfl,(Ja (loopU Zo5 [Zna] 40 1048576 8 (keep:=Zm5) (q:=Zvz) (by kernel_rfl) (Zv (s:=Zgo) (un:=ZEv) (by rfl) (fun _=>rfl) (Zn (s:=Ws) (un:=ZiR) (flat:=ZVg) (by rfl) (fun _=>rfl)) (step:=Y2) (fun _=>by kernel_rfl) (fun _ _ e=>⟨_,e⟩) (Zm 2 Ws ZiR) (ZB.fail _ _))))⟩
def Zw3 (a0:C):Option (List Int):=Za (ZlI (0,a0.1,a0.2,[])) none fun d5=>some d5
def Zp3 (x:C×Unit):Option (List Int):=Zw3 x.1
def ZAx:=conP true ZNY (.dat (.sl (.int .i64))) Zp3
theorem ZOP:Zf Tryz.prog 27 ZAx:=Ze (calU Zo5 [Zna,ZHY] 40 1048576 8 27) true (by rfl) (by rfl) (fun x r e=>(Zk _ _ _ _ _ _ _).trans ((show _=Zp3 x by kernel_rfl).trans e)) (.inl rfl)
abbrev Zrp:Type:=(Bool×(List E)×(List En)×(List Ac)×(List Al)×Int×Bool×(List E)×(List En)×(List Ac)×(List Al)×Int×Bool)
abbrev Zrq:Type:=(Int×(List E)×(List En)×(List Ac)×(List Al)×Int×Bool×(List E)×(List En)×(List Ac)×(List Al)×Int×Bool)
abbrev Zrr:Type:=((List E)×(List En)×(List Ac)×(List Al)×Int×Bool×(List E)×(List En)×(List Ac)×(List Al)×Int×Bool)
def ZJi:List Sh:=[.dat tU,.dat (.int .i64),.dat (.sl tEn),.dat (.sl tEn)]
def ZqH:Nat→List Nat:=fun c=>bif c.beq 0 then [10,11,12] else [8,10,11]
def ZxT:List Con:=[⟨22,ZhB,ZmB⟩,⟨27,ZAx,ZOP⟩,⟨28,Zlj,Zo1⟩,⟨24,Zig,ZlG⟩,⟨29,Zuz,ZE6⟩,⟨26,ZhC,ZmC⟩]
def ZdJ:StS:=⟨[(10,.ptr 0 0),(11,.ptr 1 0),(12,.int .i64)],[(0,.box [.sl tE,.sl tEn,.sl tAc,.sl tAl,.int .i64,.bool]),(1,.box [.sl tE,.sl tEn,.sl tAc,.sl tAl,.int .i64,.bool])],2⟩
def Y9:StS:=⟨[(8,.undef),(10,.ptr 0 0),(11,.ptr 1 0)],[(0,.box [.sl tE,.sl tEn,.sl tAc,.sl tAl,.int .i64,.bool]),(1,.box [.sl tE,.sl tEn,.sl tAc,.sl tAl,.int .i64,.bool])],2⟩
def Ha:StS:=⟨[(8,.bool),(10,.ptr 0 0),(11,.ptr 1 0)],[(0,.box [.sl tE,.sl tEn,.sl tAc,.sl tAl,.int .i64,.bool]),(1,.box [.sl tE,.sl tEn,.sl tAc,.sl tAl,.int .i64,.bool])],2⟩
abbrev KZ:=Zrq
def Zzw:StD ZdJ→KZ:=fun ((_,_,a,_),((b,c,d,e,f,g,_),(h,i,j,k,l,m,_),_))=>(a,b,c,d,e,f,g,h,i,j,k,l,m)
def ZAc:KZ→StD ZdJ:=fun (a,b,c,d,e,f,g,h,i,j,k,l,m)=>(((),(),a,()),((b,c,d,e,f,g,()),(h,i,j,k,l,m,()),()))
abbrev QH:=Zrr
def ZSs:StD Y9→QH:=fun ((_,_,_,_),((a,b,c,d,e,f,_),(g,h,i,j,k,l,_),_))=>(a,b,c,d,e,f,g,h,i,j,k,l)
def ZfG:QH→StD Y9:=fun (a,b,c,d,e,f,g,h,i,j,k,l)=>(((),(),(),()),((a,b,c,d,e,f,()),(g,h,i,j,k,l,()),()))
abbrev QI:=Zrp
def ZSt:StD Ha→QI:=fun ((a,_,_,_),((b,c,d,e,f,g,_),(h,i,j,k,l,m,_),_))=>(a,b,c,d,e,f,g,h,i,j,k,l,m)
def ZfH:QI→StD Ha:=fun (a,b,c,d,e,f,g,h,i,j,k,l,m)=>((a,(),(),()),((b,c,d,e,f,g,()),(h,i,j,k,l,m,()),()))
def HY (s12:Int) (b0:List E) (b0_1:List En) (b0_2:List Ac) (b0_3:List Al) (b0_4:Int) (b0_5:Bool) (b1:List E) (b1_1:List En) (b1_2:List Ac) (b1_3:List Al) (b1_4:Int) (b1_5:Bool):Option (Zrq⊕(Zrr⊕Zrp)):=bif decide (s12<(b0.length:Int)) then bif decide (0≤s12) then Za b0[s12.toNat]? none fun d15=>bif decide (0≤s12) then Za b1[s12.toNat]? none fun d16=>Za (YA (d15,d16,())) none fun d17=>bif !d17 then some (.inr (.inr (false,b0,b0_1,b0_2,b0_3,b0_4,b0_5,b1,b1_1,b1_2,b1_3,b1_4,b1_5))) else some (.inl (IntKind.i64.wrap (s12+1),b0,b0_1,b0_2,b0_3,b0_4,b0_5,b1,b1_1,b1_2,b1_3,b1_4,b1_5)) else none else none else some (.inr (.inl (b0,b0_1,b0_2,b0_3,b0_4,b0_5,b1,b1_1,b1_2,b1_3,b1_4,b1_5)))
def ZoI:KZ→Option (KZ⊕(QH⊕QI)):=fun (a,b,c,d,e,f,g,h,i,j,k,l,m)=>HY a b c d e f g h i j k l m
def Vw (x:KZ):Option (QH⊕QI):=Zh ZoI Zl x
def ZrP:Nat→Tm→Prog (Nat×Tm):=(varP 0 (fun T h=>(rdS ZdJ T h).map Zzw) Vw (fun y=>.alt y (altE 2 Y9 ZfG) (altE 1 Ha ZfH)) (fun _ _=>.fail))
def ZDc:Lpc:=⟨6,0,107,(fun base T=>.norm base (ZqH 0) T (ZrP base)),by kernel_rfl,by kernel_rfl,(loopU ZxT [] 40 1048576 8 (keep:=ZqH) (q:=ZrP) (by kernel_rfl) (Zv (s:=ZdJ) (un:=ZAc) (by rfl) (fun _=>rfl) (ZW (Zn (s:=Y9) (un:=ZfG) (flat:=ZSs) (by rfl) (fun _=>rfl)) (Zn (s:=Ha) (un:=ZfH) (flat:=ZSt) (by rfl) (fun _=>rfl))) (step:=ZoI) (fun _=>by kernel_rfl) (fun _ _ e=>⟨_,e⟩) (ZV (Zm 2 Y9 ZfG) (Zm 1 Ha ZfH)) (ZB.fail _ _)))⟩
def Zqu (a0:U) (a1:Int) (a2 a3:List En):Option Bool:=Za (Kh (a0,a1,a2,())) none fun d6=>bif !d6 then some true else Za (Kh (a0,a1,a3,())) none fun d7=>bif !d7 then some true else bif decide (0≤a1) then Za a0.2.2.2[a1.toNat]? none fun d8=>Za (Zp3 (d8,())) none fun d9=>bif decide ((List.length d9:Int)>0) then some true else Za (Kx (a2,a3,())) none fun d10=>Za (Ya (a0,a1,a2,())) none fun d11=>Za (Ya (a0,a1,d10,())) none fun d12=>bif !d11.2.2.2.2.2 then some false else bif !d12.2.2.2.2.2 then some false else bif (List.length d11.1:Int) !=(List.length d12.1:Int) then some false else bif (List.length d11.1:Int)==0 then some false else Za (Vw (0,d11.1,d11.2.1,d11.2.2.1,d11.2.2.2.1,d11.2.2.2.2.1,d11.2.2.2.2.2,d12)) none fun d13=>Sum.elim (fun e14=>bif decide ((e14.2.2.1.length:Int)≤(e14.2.2.2.2.2.2.2.2.1.length:Int)) then bif decide ((e14.2.2.2.1.length:Int)≤(e14.2.2.2.2.2.2.2.2.2.1.length:Int)) then Za (Z0 ()) none fun d15=>some d15 else some false else some false) (fun e14=>some e14.1) d13 else none
def ZyB (x:(U×(Int×((List En)×((List En)×Unit))))):Option Bool:=Zqu x.1 x.2.1 x.2.2.1 x.2.2.2.1
def ZJl:=conP true ZJi (.dat .bool) ZyB
theorem Z0Y:Zf Tryz.prog 6 ZJl:=Ze (calU ZxT [ZDc] 40 1048576 8 6) true (by rfl) (by rfl) (fun x r e=>(Zk _ _ _ _ _ _ _).trans ((show _=ZyB x by kernel_rfl).trans e)) (.inl rfl)
def Zcl (b0_1:List En) (b0_2:List Ac) (b0_3:List Al) (b0_4:Int) (b0_5:Bool) (b1:List E) (b1_1:List En) (b1_2:List Ac) (b1_3:List Al) (b1_4:Int) (b1_5:Bool) (b0:List E) (i:Nat)  (d:E):Option (Unit⊕(QH⊕QI)):=
 Za b1[i]? (none) fun d16=>
  Za (YA (d,d16,())) (none) fun d17=>
  bif !d17 then
  some (.inr (.inr (false,b0,b0_1,b0_2,b0_3,b0_4,b0_5,b1,b1_1,b1_2,b1_3,b1_4,b1_5)))
 else some (.inl ())
def Zoz (b0_1:List En) (b0_2:List Ac) (b0_3:List Al) (b0_4:Int) (b0_5:Bool) (b1:List E) (b1_1:List En) (b1_2:List Ac) (b1_3:List Al) (b1_4:Int) (b1_5:Bool) (b0:List E):Option (QH⊕QI):=
 some (.inl (b0,b0_1,b0_2,b0_3,b0_4,b0_5,b1,b1_1,b1_2,b1_3,b1_4,b1_5))
abbrev Zz1 (b0_1:List En) (b0_2:List Ac) (b0_3:List Al) (b0_4:Int) (b0_5:Bool) (b1:List E) (b1_1:List En) (b1_2:List Ac) (b1_3:List Al) (b1_4:Int) (b1_5:Bool) (b0:List E) (i:Nat) (s:Unit):KZ:=((i:Int),b0,b0_1,b0_2,b0_3,b0_4,b0_5,b1,b1_1,b1_2,b1_3,b1_4,b1_5)
def Zil (b0_1:List En) (b0_2:List Ac) (b0_3:List Al) (b0_4:Int) (b0_5:Bool) (b1:List E) (b1_1:List En) (b1_2:List Ac) (b1_3:List Al) (b1_4:Int) (b1_5:Bool) (b0:List E) (s:Unit):Option (QH⊕QI):=Zp (fun i s d=>Zcl b0_1 b0_2 b0_3 b0_4 b0_5 b1 b1_1 b1_2 b1_3 b1_4 b1_5 b0 i  d) (fun s=>Zoz b0_1 b0_2 b0_3 b0_4 b0_5 b1 b1_1 b1_2 b1_3 b1_4 b1_5 b0 ) 0 b0 s
theorem ZzX (b0_1:List En) (b0_2:List Ac) (b0_3:List Al) (b0_4:Int) (b0_5:Bool) (b1:List E) (b1_1:List En) (b1_2:List Ac) (b1_3:List Al) (b1_4:Int) (b1_5:Bool) (b0:List E) (s:Unit) (hl:b0.length<9223372036854775807):Vw (0,b0,b0_1,b0_2,b0_3,b0_4,b0_5,b1,b1_1,b1_2,b1_3,b1_4,b1_5)=Zil b0_1 b0_2 b0_3 b0_4 b0_5 b1 b1_1 b1_2 b1_3 b1_4 b1_5 b0 s:=by
 unfold Vw Zil
 refine Zs b0 (Zz1 b0_1 b0_2 b0_3 b0_4 b0_5 b1 b1_1 b1_2 b1_3 b1_4 b1_5 b0) _ _ ?_ ?_ s (by unfold Zl;omega)
 ·intro i s d hi hd
  have e1:decide ((i:Int)<(b0.length:Int))=true:=dT0 (by omega)
  have e2:decide (0≤(i:Int))=true:=dT0 (by omega)
  have e3:Int.toNat (i:Int)=i:=tN0 i
  have e4:=Zq hi (Nat.le_of_lt hl)
  show HY ((i:Int)) (b0) (b0_1) (b0_2) (b0_3) (b0_4) (b0_5) (b1) (b1_1) (b1_2) (b1_3) (b1_4) (b1_5)=upd _ (Zcl b0_1 b0_2 b0_3 b0_4 b0_5 b1 b1_1 b1_2 b1_3 b1_4 b1_5 b0 i  d)
  unfold HY Zcl
  simp only [e1,e2,e3,e4,hd,cond_true,cond_false,Zb,ZC,ZF,ZD,ZI,ZJ,ZE]
 ·intro s
  have e1:decide ((b0.length:Int)<(b0.length:Int))=false:=dF0 (by omega)
  show HY ((b0.length:Int)) (b0) (b0_1) (b0_2) (b0_3) (b0_4) (b0_5) (b1) (b1_1) (b1_2) (b1_3) (b1_4) (b1_5)=_
  unfold HY Zoz
  rw [e1]
  rfl
def Znc (h:Int) (d:A):Bool:=d.1 !=14&&(d.1 !=13&&(d.2.2.2.2.2.2.2.1==h||(d.1==11&&d.2.2.2.2.2.2.2.2==h)))
theorem Z1v (b0:Int) (acts:List A) (b1:List Int) (hn:acts.length≤60) (h:Nat) (hh:h≤acts.length) :
  ZfW ((h:Int),false,(h:Int),b0,acts,b1)=some ((h:Int),(acts.drop h).any (Znc h),b0,acts,b1):=by
 have go:∀ (r:List A) (i:Nat) (s:Bool) (k:Nat),acts.drop i=r→i+r.length=acts.length→
   Zh Zam (k+r.length+1) ((h:Int),s,(i:Int),b0,acts,b1)=some ((h:Int),s||r.any (Znc h),b0,acts,b1):=by
  intro r
  induction r with
  | nil=>
   intro i s k hd hi
   have e:decide ((i:Int)<(acts.length:Int))=false:=dF0 (by simp at hi;omega)
   simp only [Zh,Zam,Zk8,e,cond_false,List.any_nil,Bool.or_false]
  | cons d r ih=>
   intro i s k hd hi
   rw [List.length_cons] at hi ⊢
   have hc:acts[i]? = some d:=by
    have:=congrArg (fun q=>q[0]?) hd
    simpa using this
   have e:decide ((i:Int)<(acts.length:Int))=true:=dT0 (by omega)
   have e0:decide (0≤(i:Int))=true:=dT0 (by omega)
   have w:=Zq (i:=i) (n:=acts.length) (by omega) (by omega)
   have ih':=ih (i+1) (s||Znc h d) k (by rw [← List.drop_drop,hd];rfl) (by omega)
   rw [show k+(r.length+1)+1=(k+r.length+1)+1 by omega,Zh,List.any_cons,← Bool.or_assoc,← ih']
   simp only [Zam,Zk8,e,e0,cond_true,tN0,hc,Zb,w]
   unfold Znc
   cases d.1 !=14<;>cases d.1 !=13<;>cases s<;>cases d.2.2.2.2.2.2.2.1==(h:Int)<;>cases d.1==11<;>simp only [cond_true,cond_false,Bool.true_and,Bool.false_and,Bool.true_or,Bool.false_or,Bool.or_false,Bool.or_true,Bool.and_false]
 unfold ZfW
 have:=go (acts.drop h) h false (Zl - (acts.length - h) - 1) rfl (by rw [List.length_drop];omega)
 rw [List.length_drop,show Zl - (acts.length - h) - 1+(acts.length - h)+1=Zl by unfold Zl;omega,Bool.false_or] at this
 exact this
def ZqC (acts:List A) (i k:Nat):List Int:=((List.range' i k).filter fun h=>(acts.drop h).any (Znc h)).map Int.ofNat
theorem Z3b (c:C) (hn:c.2.length≤60):Zw3 c=some (ZqC c.2 0 c.2.length):=by
 have go:∀ (k i:Nat) (s:List Int) (q:Nat),i+k=c.2.length→s.length≤i→
   Zh Y2 (q+k+1) ((i:Int),c.1,c.2,s)=some (s++ZqC c.2 i k):=by
  intro k
  induction k with
  | zero=>
   intro i s q hi hs
   have e:decide ((i:Int)<(c.2.length:Int))=false:=dF0 (by omega)
   simp only [Zh,Y2,Zk7,e,cond_false]
   simp [ZqC]
  | succ k ih=>
   intro i s q hi hs
   have e:decide ((i:Int)<(c.2.length:Int))=true:=dT0 (by omega)
   have w:=Zq (i:=i) (n:=c.2.length) (by omega) (by omega)
   have h1:=Z1v c.1 c.2 s hn i (by omega)
   have lm:decide ((s.length+0+1+1)*8≤lim)=true:=dT0 (by unfold lim;omega)
   rw [show q+(k+1)+1=(q+k+1)+1 by omega,Zh]
   simp only [Y2,Zk7,e,cond_true,h1,Zb,w,List.length_cons,List.length_nil]
   have hF:ZqC c.2 i (k+1)=(bif (c.2.drop i).any (Znc i) then [(i:Int)] else [])++ZqC c.2 (i+1) k:=by
    unfold ZqC
    rw [List.range'_succ,List.filter_cons]
    cases (c.2.drop i).any (Znc i)<;>rfl
   rw [hF]
   cases (c.2.drop i).any (Znc i)
   ·simp only [cond_false,List.nil_append]
    exact ih (i+1) s q (by omega) (by omega)
   ·have lm:decide ((s.length+(0+1)+1)*8≤lim)=true:=dT0 (by unfold lim;omega)
    simp only [cond_true,lm]
    rw [← List.append_assoc]
    exact ih (i+1) (s++[(i:Int)]) q (by omega) (by rw [List.length_append];simp;omega)
 unfold Zw3 ZlI
 have:=go c.2.length 0 [] (Zl - c.2.length - 1) (by omega) (Nat.le_refl _)
 rw [show Zl - c.2.length - 1+c.2.length+1=Zl by unfold Zl;omega] at this
 have this:Zh Y2 Zl (0,c.1,c.2,[])=_:=this
 rw [this]
 rfl
theorem Z4j {u:U} {c:C} (hu:unitOK u) (hc:c∈u.2.2.2) (h:ZqC c.2 0 c.2.length=[]):fwd c:=by
 unfold ZqC at h
 rw [List.map_eq_nil_iff,List.filter_eq_nil_iff] at h
 have no:∀ (i:Nat) (d:A) (x:Int),c.2[i]? = some d→0≤x∧x<(c.2.length:Int)→Znc x d=true→(i:Int)<x:=fun i d x hd hx hl=>by
  by_cases q:(i:Int)<x
  ·exact q
  ·exfalso
   have hi:=(List.getElem?_eq_some_iff.1 hd).1
   refine h x.toNat (by rw [List.mem_range'_1];omega) ?_
   rw [List.any_eq_true]
   refine ⟨d,mG0 (i:=i - x.toNat) ?_,by rw [show ((x.toNat:Nat):Int)=x by omega];exact hl⟩
   rw [List.getElem?_drop,show x.toNat+(i - x.toNat)=i by omega]
   exact hd
 intro i d hd h13 h14
 have ha:=(hu.ts c hc).a d (mG0 hd)
 have n14:(d.1 !=14)=true:=by simpa using h14
 have n13:(d.1 !=13)=true:=by simpa using h13
 refine ⟨no i d _ hd ha.nx ?_,fun k11=>no i d _ hd ha.el ?_⟩
 ·unfold Znc
  rw [n14,n13];simp
 ·unfold Znc
  rw [n14,n13,k11];simp
theorem Z64 (u:U) (t:Int) (a b:List En) (hs:sizeU u) (hla:a.length<9223372036854775807) (hlb:b.length<9223372036854775807):Zqu u t a b=some true:=by
 unfold Zqu
 obtain ⟨x,h1,h2⟩:=Zg6 u t a hs hla
 simp only [Kh,h1,Zb]
 cases x
 ·rfl
 obtain ⟨hu,ht,hn,hk⟩:=h2 rfl
 obtain ⟨y,h3,h4⟩:=Zg6 u t b hs hlb
 simp only [Bool.not_true,cond_false,h3,Zb]
 cases y
 ·rfl
 obtain ⟨_,_,hn',hk'⟩:=h4 rfl
 obtain ⟨c,hc⟩:=ZNi ht
 have hcm:=mG0 hc
 have cl:=(hu.ts c hcm).n
 have e0:decide (0≤t)=true:=dT0 ht.1
 simp only [Bool.not_true,cond_false,e0,cond_true,hc,Zb,Zp3,Z3b c cl.2]
 by_cases hh:((ZqC c.2 0 c.2.length).length:Int)>0
 ·rw [dT0 hh];rfl
 rw [dF0 hh]
 have hf:fwd c:=Z4j hu hcm (List.eq_nil_of_length_eq_zero (by omega))
 have add:Zcp a b=some (addT Zg a b):=by rw [Zne _ _ (by omega),Zwy hk.e hk'.a]
 have kj:=Zfk Zcb hk hk'.a
 have lj:=Zlz Zg b a
 have hT:leT a (addT Zg a b):=Z59 kj.srt hk.srt (Z4V Zns hk hk')
 obtain ⟨r1,_,v,g⟩:=ZnL hu ht.1 hk (by omega) hc
 obtain ⟨r2,_,v',g'⟩:=ZnL hu ht.1 kj (by omega) hc
 obtain ⟨f1,f2,f3⟩:=ZSl (st:=Zt u) hu ht.1 hk (by omega) hc hf
 obtain ⟨f1',f2',f3'⟩:=ZSl (st:=Zt u) hu ht.1 kj (by omega) hc hf
 have i0:=ZSN (t:=t) hu hc
 have mono:=ZMW hu ht.1 hk kj (by omega) (by omega) hT hc hf c.2 0 (es0 u c) (es0 u c) rfl i0.ok i0.ok i0.le ⟨rfl,fun i x y hx hy=>by rw [hx] at hy;cases hy;exact Zxb x⟩
 rw [← f1,← f1'] at mono
 have gm:=ZSE hu ht.1 hk kj (by omega) (by omega) hT hc v.ok v'.ok v.le mono c.2 0 ([],[],[]) ([],[],[]) rfl (Nat.le_refl _) (Nat.le_refl _)
 have gm:(gatE u t a (Zt u) c).2.1.length≤(gatE u t (addT Zg a b) (Zt u) c).2.1.length∧(gatE u t a (Zt u) c).2.2.length≤(gatE u t (addT Zg a b) (Zt u) c).2.2.length:=gm
 simp only [cond_false,Kx,add,Zb,Ya,r1,r2]
 unfold resV
 simp only [f2,f2',Bool.not_true,cond_false]
 generalize (endV u t a (Zt u) c).1=es at *
 generalize (endV u t (addT Zg a b) (Zt u) c).1=es' at *
 generalize gatE u t a (Zt u) c=ga at *
 generalize gatE u t (addT Zg a b) (Zt u) c=ga' at *
 generalize (endV u t a (Zt u) c).2.2.1=x1
 generalize (endV u t (addT Zg a b) (Zt u) c).2.2.1=x2
 obtain ⟨st,ac,al⟩:=ga
 obtain ⟨st',ac',al'⟩:=ga'
 have ve:=v.le
 have l1:((es.length:Int) !=(es'.length:Int))=false:=by have:=mono.1;simp;omega
 have l2:((es.length:Int)==0)=false:=by simp;intro k;subst k;simp at ve;omega
 simp only [l1,l2,cond_false]
 have q:=ZzX st ac al x1 true es' st' ac' al' x2 true es () (by omega)
 unfold Zil at q
 rw [Zfe es 0 fun j d hd=>?_] at q
 ·have q:Vw (0,es,st,ac,al,x1,true,es',st',ac',al',x2,true)=some (.inl (es,st,ac,al,x1,true,es',st',ac',al',x2,true)):=q
  have d1:decide ((ac.length:Int)≤(ac'.length:Int))=true:=dT0 (by have:=gm.1;simp only at this;omega)
  have d2:decide ((al.length:Int)≤(al'.length:Int))=true:=dT0 (by have:=gm.2;simp only at this;omega)
  simp only [q,Zb,Sum.elim_inl,d1,d2,cond_true,Z0,ZAT]
 ·rw [Nat.zero_add]
  have hj:=(List.getElem?_eq_some_iff.1 hd).1
  have hj':j<es'.length:=by rw [← mono.1];exact hj
  have ge':es'[j]? = some es'[j]:=List.getElem?_eq_getElem hj'
  have lo:=mono.2 j d es'[j] hd ge'
  have od:=(v.ok d (mG0 hd)).env
  have od':=(v'.ok _ (List.getElem_mem hj')).env
  have lq:=ZqM hu od od'
  rw [ZI4 od od' lo] at lq
  unfold Zcl
  simp only [ge',Zb,YA,lq,Bool.not_true,cond_false]
end
end Go.Proofs.YtbdcblpjemmipaaGreat.Ex
