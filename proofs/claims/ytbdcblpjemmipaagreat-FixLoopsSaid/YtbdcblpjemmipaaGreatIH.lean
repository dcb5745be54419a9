/- A part of the proofs of what is known of threads: IH. -/
import Derived.Test.YtbdcblpjemmipaaGreatIG
import Derived.Test.YtbdcblpjemmipaaGreatIF
import Derived.Test.YtbdcblpjemmipaaGreatIE
import Derived.Laws.CopyRow
import Derived.Lib.AppendZerosOnto
import Derived.Shelf.Spec.SlicesInsert
import Derived.Test.YtbdcblpjemmipaaGreatID
import Derived.Test.YtbdcblpjemmipaaGreatIC
namespace Go.Proofs.YtbdcblpjemmipaaGreat.Ex
open Go.Proofs
set_option maxRecDepth 100000
set_option maxHeartbeats 4000000
set_option linter.unusedVariables false
set_option linter.unusedSimpArgs false
set_option linter.unusedSectionVars false
noncomputable section
section
open Go.Proofs
theorem ZJm {x y:I} (hx:isB x=true) (hy:isB y=true):isB (Zl x y)=true:=by rw [Zav hy];exact Zhv hx hy
theorem ZyQ (r:I):isB (iMeet r aa)=true:=by
 cases h:Zd (iMeet r aa)
 ·obtain ⟨e,_,_,h4⟩:=Zsh h
  rw [e]
  refine Zh8 ?_ h4 ?_<;>simp only [aa,mx,mn]<;>omega
 ·unfold iMeet at h ⊢
  repeat' split at h
  all_goals first | (rename_i k1 k2 k3;rw [if_neg k1,if_neg k2,if_neg k3];exact absurd h k3) | skip
  all_goals (repeat' split)<;>first | rfl | contradiction
theorem ZYC {x y:I} (hx:isB x=true) (ex:Zd x=false):isB (remI x y)=true:=by
 unfold remI
 split
 ·rfl
 rename_i h0
 obtain ⟨k1,k2⟩:=Zgr hx (ZR ex)
 have kx:=ZR ex
 refine Zh8 ?_ ?_ ?_<;>simp only [mx,mn]<;>(repeat' split)<;>omega
theorem ZYu (x y:I):isB (quoV x y).1=true:=by
 have h1:isB (ZmF x y).1=true:=by
  unfold ZmF
  split
  ·rfl
  ·exact ZJm ZRF (ZyQ _)
 unfold quoV
 split
 ·exact h1
 ·exact ZJm h1 (ZyQ _)
theorem ZW6 (op:Int) {x y:I} (hx:isB x=true):isB (doI op x y).1=true:=by
 unfold doI
 split
 ·rfl
 rename_i h
 simp only [Bool.or_eq_true,not_or,Bool.not_eq_true] at h
 (repeat' split)<;>first | exact ZyQ _ | exact ZYu _ _ | exact ZYC hx h.1
theorem ZQa {x y c d:I} (hc:Zd c=false→isB c=true) (hd:Zd d=false→isB d=true):isB (both x y c d).1=true∧isB (both x y c d).2=true:=by
 unfold both
 split
 ·exact ⟨rfl,rfl⟩
 ·rename_i h
  simp only [Bool.or_eq_true,not_or,Bool.not_eq_true] at h
  exact ⟨hc h.1.2,hd h.2⟩
theorem ZV8 (r:Int) {x y:I} (hx:isB x=true) (hy:isB y=true) (ex:Zd x=false) (ey:Zd y=false):isB (refI r x y).1=true∧isB (refI r x y).2=true:=by
 obtain ⟨x1,x2⟩:=Zgr hx (ZR ex)
 obtain ⟨y1,y2⟩:=Zgr hy (ZR ey)
 have kx:=ZR ex
 have ky:=ZR ey
 have hm:Zd (iMeet x y)=false→isB (iMeet x y)=true:=ZUw hx hy
 unfold refI
 (repeat' split)<;>first | exact ⟨rfl,rfl⟩ | exact ZQa hm hm | skip
 all_goals
  refine ZQa (fun k=>?_) (fun k=>?_)<;>have k':=ZR k<;>revert k'<;>simp only [wout,mx,mn]<;>(repeat' split)<;>intro k'<;>first | exact Zh8 (by omega) (by omega) (by omega) | exact Zh8 (a:=x.1) (b:=x.2) (by omega) (by omega) (by omega) | exact Zh8 (a:=y.1) (b:=y.2) (by omega) (by omega) (by omega)
theorem ZQ4 {x:I} {m:Int} (hx:isB x=true) (hm:1≤m∧m≤2147483648) (h:Zd (mSpan x (0,m - 1))=false):isB (mSpan x (0,m - 1))=true:=
 ZjC hx (Zh8 (by omega) (by omega) (by omega)) h
variable {u:U} {t n:Int} {e:E} {l:List En} {c:C}
theorem Zv0 (he:envOK u t e) {b:Bool} {V G A:List I} {m y:Int} (hV:V.length=e.2.1.length) (hG:G.length=e.2.2.1.length) (hA:A.length=e.2.2.2.1.length)
  (v:∀ x∈V,isB x=true∧Zd x=false) (g:∀ x∈G,isB x=true∧Zd x=false) (a:∀ x∈A,isB x=true∧Zd x=false) (hm:0≤m∧m<2147483648) (hy:0≤y∧y<2147483648):envOK u t (b,V,G,A,m,y):=by
 obtain ⟨c,hc,hl⟩:=he.c
 refine ⟨⟨c,hc,by simp only [hV];exact hl⟩,by simp only [hG];exact he.g,by simp only [hA];exact he.a,hm,hy,fun x hx=>?_⟩
 simp only [List.mem_append] at hx
 rcases hx with (k | k) | k
 ·exact v x k
 ·exact g x k
 ·exact a x k
theorem envV (he:envOK u t e):∀ x∈e.2.1,isB x=true∧Zd x=false:=fun x k=>he.v x (by simp [k])
theorem envG (he:envOK u t e):∀ x∈e.2.2.1,isB x=true∧Zd x=false:=fun x k=>he.v x (by simp [k])
theorem envA (he:envOK u t e):∀ x∈e.2.2.2.1,isB x=true∧Zd x=false:=fun x k=>he.v x (by simp [k])
theorem ZIf {L:List I} (h:∀ x∈L,isB x=true∧Zd x=false) (i:Nat) {v:I} (hv:isB v=true∧Zd v=false):∀ x∈L.set i v,isB x=true∧Zd x=false:=fun x k=>by
 rcases List.mem_or_eq_of_mem_set k with k | rfl
 ·exact h x k
 ·exact hv
theorem Zc7 (he:envOK u t e) (T:Int) {v:I} (hv:isB v=true∧Zd v=false):envOK u t (setE e T v):=
 Zv0 he (by simp) rfl rfl (ZIf (envV he) _ hv) (envG he) (envA he) he.must he.may
theorem ZQT {d:I} (hd:isB d=true∧Zd d=false) (hl:∀ x∈l,entOK x) (ar:Bool) (g h:Int):isB (readV d l t ar g h)=true∧Zd (readV d l t ar g h)=false:=
 ⟨Zhv hd.1 (ZOn hl),(ZbQ (Qs.2 (.inr (Zla hd.2))) hd.2).2⟩
end
def ZoI (a0:List I) (a1:Int):Option I:=bif decide (a1<(a0.length:Int)) then bif decide (0≤a1) then Za a0[a1.toNat]? none fun d3=>some (d3.1,d3.2) else none else some (1,0)
def KJ (x:(List I)×(Int×Unit)):Option I:=ZoI x.1 x.2.1
def leR (a b:List I):Prop:=a.length=b.length∧∀ (i:Nat) (x y:I),a[i]? = some x→b[i]? = some y→leqB x y=true
theorem ZGJ (a:List I):leR a a:=⟨rfl,fun i x y hx hy=>by rw [hx] at hy;cases hy;exact Zfn x⟩
structure leE (x y:E):Prop where
 on:y.1=true
 v:leR x.2.1 y.2.1
 g:leR x.2.2.1 y.2.2.1
 a:leR x.2.2.2.1 y.2.2.2.1
 must:subB y.2.2.2.2.1 x.2.2.2.2.1
 may:subB x.2.2.2.2.2 y.2.2.2.2.2
def leO (x y:E):Prop:=x.1=true→leE x y
def okB (n:Int):Prop:=0≤n∧n<2147483648
theorem ZP9 (m:Int):0≤bitV m∧bitV m<2147483648:=by
 obtain ⟨k,h1,h2,_⟩:=ZxU m
 omega
theorem ZlL (s m:Int) (hs:okB s):okB (woI s m)∧∀ i,(woI s m).toNat.testBit i=(s.toNat.testBit i && !(bitV m).toNat.testBit i):=by
 unfold okB at *
 have hb:=ZP9 m
 obtain ⟨r,h1,h2,h3⟩:=ZGc (a:=s.toNat) (b:=(bitV m).toNat) (by omega) (by omega)
 have e1:((s.toNat:Nat):Int)=s:=by omega
 have e2:(((bitV m).toNat:Nat):Int)=bitV m:=by omega
 rw [e1,e2] at h1
 unfold woI
 rw [h1]
 refine ⟨by omega,fun i=>?_⟩
 rw [tN0]
 exact h3 i
theorem ZlK (s m:Int) (hs:okB s):okB (wiI s m)∧∀ i,(wiI s m).toNat.testBit i=(s.toNat.testBit i||(bitV m).toNat.testBit i):=by
 unfold okB at *
 have hb:=ZP9 m
 unfold wiI
 have:s.toNat ||| (bitV m).toNat<2 ^ 31:=Nat.or_lt_two_pow (by omega) (by omega)
 refine ⟨by omega,fun i=>?_⟩
 rw [tN0,Nat.testBit_or]
section
open Go.Proofs
structure outOK (u:U) (t n:Int) (e:E) (o:O):Prop where
 nx:o.1.1=true→envOK u t o.1
 el:o.2.1.1=true→envOK u t o.2.1
 off:e.1=false→o=(Zf,Zf,[],[],[])
 al:o.2.2.1.length≤2∧∀ x∈o.2.2.1,x≠0
 st:o.2.2.2.1.length≤1∧∀ x∈o.2.2.2.1,entOK x∧x.1=t
 ac:o.2.2.2.2.length≤1∧∀ x∈o.2.2.2.2,x.1=t∧x.2.1=n∧x.2.2.2.2.2=e.2.2.2.2.1
section
variable {u:U} {t n:Int} {e:E} {l:List En} {c:C}
theorem HA:Zf.1=true→envOK u t Zf:=fun h=>nomatch h
theorem ZrL {b:Bool} {x:E} (h:b=false→x.1=true→envOK u t x):(bif b then Zf else x).1=true→envOK u t (bif b then Zf else x):=by
 cases b
 ·exact h rfl
 ·exact fun k=>nomatch k
theorem bif_ok' {b:Bool} {x:E} (h:b=true→envOK u t x):(bif b then x else Zf).1=true→envOK u t (bif b then x else Zf):=by
 cases b
 ·exact fun k=>nomatch k
 ·exact fun _=>h rfl
theorem ZeW (he:e.1=true) {x y:E} {al:List Int} {st:List En} {ac:List Ac} (hx:x.1=true→envOK u t x) (hy:y.1=true→envOK u t y) (ha:al.length≤2∧∀ x∈al,x≠0)
  (hs:st.length≤1∧∀ x∈st,entOK x∧x.1=t) (hc:ac.length≤1∧∀ x∈ac,x.1=t∧x.2.1=n∧x.2.2.2.2.2=e.2.2.2.2.1):outOK u t n e (x,y,al,st,ac):=
 ⟨hx,hy,fun k=>by rw [he] at k;(cases k),ha,hs,hc⟩
theorem al0:([]:List Int).length≤2∧∀ x∈([]:List Int),x≠0:=⟨by decide,fun x k=>nomatch k⟩
theorem al1 (b:Bool) {k:Int} (hk:k≠0):(bif b then [k] else []).length≤2∧∀ x∈(bif b then [k] else []),x≠0:=by
 cases b
 ·exact al0
 ·exact ⟨by simp,fun x h=>by rw [List.mem_singleton.1 h];exact hk⟩
theorem al1' (b:Bool) {k:Int} (hk:k≠0):(bif b then [] else [k]).length≤2∧∀ x∈(bif b then [] else [k]),x≠0:=by
 cases b
 ·exact ⟨by simp,fun x h=>by rw [List.mem_singleton.1 h];exact hk⟩
 ·exact al0
theorem st0:([]:List En).length≤1∧∀ x∈([]:List En),entOK x∧x.1=t:=⟨by decide,fun x k=>nomatch k⟩
theorem st1 {d:En} (h:entOK d) (k:d.1=t):[d].length≤1∧∀ x∈[d],entOK x∧x.1=t:=⟨by simp,fun x q=>by rw [List.mem_singleton.1 q];exact ⟨h,k⟩⟩
theorem ac0 {m:Int}:([]:List Ac).length≤1∧∀ x∈([]:List Ac),x.1=t∧x.2.1=n∧x.2.2.2.2.2=m:=⟨by decide,fun x k=>nomatch k⟩
theorem ac1 {m:Int} {a:Bool} {g:Int} {w:Bool}:[((t,n,a,g,w,m):Ac)].length≤1∧∀ x∈[((t,n,a,g,w,m):Ac)],x.1=t∧x.2.1=n∧x.2.2.2.2.2=m:=⟨by simp,fun x q=>by rw [List.mem_singleton.1 q];exact ⟨rfl,rfl,rfl⟩⟩
theorem ZQ3 (he:envOK u t e) {x y:I} (hx:isB x=true∧Zd x=false) (hy:isB y=true∧Zd y=false) (X Y r:Int):(sideV e X Y r x y).1=true→envOK u t (sideV e X Y r x y):=by
 have hr:=ZV8 r hx.1 hy.1 hx.2 hy.2
 unfold sideV
 cases X==Y
 ·simp only [cond_false]
  exact ZrL fun h1=>ZrL fun h2 _=>Zc7 (Zc7 he X ⟨hr.1,h1⟩) Y ⟨hr.2,h2⟩
 ·simp only [cond_true]
  exact ZrL fun h _=>Zc7 (Zc7 he X ⟨ZjC hr.1 hr.2 h,h⟩) Y ⟨ZjC hr.1 hr.2 h,h⟩
theorem ZeQ {p q:Option O} {v:O} {R:O→Prop} (h1:∃ o,p=some o∧q=some o∧HC o) (h2:p=some v) (h3:R v):∃ o,p=some o∧q=some o∧R o∧HC o:=by
 obtain ⟨o,k1,k2,k3⟩:=h1
 rw [h2] at k1
 cases k1
 exact ⟨v,h2,k2,h3,k3⟩
theorem ZVi (hu:unitOK u) (ht:0≤t) (hl:tabOK l) (hn:l.length≤1000) (he:e.1=true→envOK u t e) (h1:0≤n) (hc:u.2.2.2[t.toNat]? = some c) (h2:n<(c.2.length:Int)) :
  ∃ o,Wy u t n e l=some o∧ZjW u t n e l=some o∧outOK u t n e o∧HC o:=by
 obtain ⟨a,ga⟩:=ZJ c.2 n ⟨h1,h2⟩
 cases he1:e.1
 ·obtain ⟨on,V,G,A,must,may⟩:=e
  cases he1
  have e0:decide (0≤t)=true:=dT0 ht
  have e1:decide (0≤n)=true:=dT0 h1
  refine ⟨((Bool.false,[],[],[],0,0),(Bool.false,[],[],[],0,0),[],[],[]),?_,rfl,⟨HA,HA,fun _=>rfl,al0,st0,ac0⟩,⟨⟨by decide,by decide,by decide⟩,⟨by decide,by decide,by decide⟩,by decide,by decide,by decide⟩⟩
  unfold Wy
  rw [e0,hc,e1,cond_true,Zc,cond_true,ga,Zc]
  rfl
 have hE:=he he1
 have ha:=(hu.ts c (mG0 hc)).a a (mG0 ga)
 rw [ZMe u t n e l c a ht hc h1 ga he1,ZZI u t n e l c a ht hc h1 ga he1]
 have hle:=hl.e
 obtain ⟨cc,hc',hv⟩:=hE.c
 obtain rfl:cc=c:=by rw [hc] at hc';exact (Option.some.inj hc').symm
 have vx:∀ {X:Int},0≤X∧X<cc.1→∃ x,e.2.1[X.toNat]? = some x∧isB x=true∧Zd x=false:=fun {X} h=>by
  obtain ⟨x,gx⟩:=ZJ e.2.1 X (by omega)
  exact ⟨x,gx,envV hE x (mG0 gx)⟩
 have gx:∀ {G:Int},0≤G∧G<(u.1.length:Int)→∃ x,e.2.2.1[G.toNat]? = some x∧isB x=true∧Zd x=false:=fun {G} h=>by
  obtain ⟨x,gx⟩:=ZJ e.2.2.1 G (by rw [hE.g];exact h)
  exact ⟨x,gx,envG hE x (mG0 gx)⟩
 have ax:∀ {G:Int},0≤G∧G<(u.2.1.length:Int)→∃ x m,e.2.2.2.1[G.toNat]? = some x∧(isB x=true∧Zd x=false)∧u.2.1[G.toNat]? = some m∧1≤m∧m≤2147483648:=fun {G} h=>by
  obtain ⟨x,gx⟩:=ZJ e.2.2.2.1 G (by rw [hE.a];exact h)
  obtain ⟨m,gm⟩:=ZJ u.2.1 G h
  have:=hu.ars m (mG0 gm)
  exact ⟨x,m,gx,envA hE x (mG0 gx),gm,this.1,by omega⟩
 have hb:=hE.must
 have hy:=hE.may
 obtain ⟨k,T,X,Y,G,N,op,nx,el⟩:=a
 have k1:1≤k:=ha.k1
 have k2:k≤14:=ha.k2
 have hk:k=1∨k=2∨k=3∨k=4∨k=5∨k=6∨k=7∨k=8∨k=9∨k=10∨k=11∨k=12∨k=13∨k=14:=by omega
 rcases hk with rfl | rfl | rfl | rfl | rfl | rfl | rfl | rfl | rfl | rfl | rfl | rfl | rfl | rfl
 ·have hf:=Jw.1 ha.n
  refine ZeQ (Z0E u t n e l cc T X Y G N op nx el ht hu hl hn hE hc ha) (ZMj u t n e l cc T X Y G N op nx el hu hle hn hE hc ha) (ZeW he1 (fun _=>Zc7 hE T ⟨Zh8 hf.1 (Int.le_refl _) hf.2,Z6 (Int.le_refl _)⟩) HA al0 st0 ac0)
 ·obtain ⟨x,g1,hx⟩:=vx (Zy.1 ha.h2)
  exact ZeQ (Z0F u t n e l cc T X Y G N op nx el ht hu hl hn hE hc ha) (ZMk u t n e l cc T X Y G N op nx el g1 hu hle hn hE hc ha) (ZeW he1 (fun _=>Zc7 hE T hx) HA al0 st0 ac0)
 ·exact ZeQ (Z0G u t n e l cc T X Y G N op nx el ht hu hl hn hE hc ha) (ZMl u t n e l cc T X Y G N op nx el hu hle hn hE hc ha) (ZeW he1 (fun _=>Zc7 hE T ⟨by decide,by decide⟩) HA al0 st0 ac0)
 ·obtain ⟨x,g1,hx⟩:=vx (Zy.1 ha.h2)
  obtain ⟨y,g2,hy⟩:=vx (Zy.1 ha.h3)
  refine ZeQ (Z0H u t n e l cc T X Y G N op nx el ht hu hl hn hE hc ha) (ZMm u t n e l cc T X Y G N op nx el g1 g2 hu hle hn hE hc ha) (ZeW he1 (ZrL fun h _=>Zc7 hE T ⟨ZW6 op hx.1,h⟩) HA ?_ st0 ac0)
  cases (doI op x y).2.1<;>cases (doI op x y).2.2<;>exact ⟨by decide,by decide⟩
 ·obtain ⟨x,g1,hx⟩:=gx (Zy.1 ha.h4)
  exact ZeQ (Z0I u t n e l cc T X Y G N op nx el ht hu hl hn hE hc ha) (ZMn u t n e l cc T X Y G N op nx el g1 hu hle hn hE hc ha) (ZeW he1 (fun _=>Zc7 hE T (ZQT hx hle _ _ _)) HA al0 st0 ac1)
 ·obtain ⟨x,g1,hx⟩:=vx (Zy.1 ha.h2)
  exact ZeQ (Z0J u t n e l cc T X Y G N op nx el ht hu hl hn hE hc ha) (ZMo u t n e l cc T X Y G N op nx el g1 hu hle hn hE hc ha)
   (ZeW he1 (fun _=>Zv0 hE rfl (by simp) rfl (envV hE) (ZIf (envG hE) _ hx) (envA hE) hb hy) HA al0 (st1 ⟨hx.1,hx.2,hb⟩ rfl) ac1)
 ·obtain ⟨x,g1,hx⟩:=vx (Zy.1 ha.h2)
  obtain ⟨d,m,g2,hd,gm,hm⟩:=ax (Zy.1 ha.h4)
  exact ZeQ (Z0K u t n e l cc T X Y G N op nx el ht hu hl hn hE hc ha) (ZMp u t n e l cc T X Y G N op nx el g1 gm g2 hu hle hn hE hc ha)
   (ZeW he1 (ZrL fun h _=>Zc7 (Zc7 hE X ⟨ZQ4 hx.1 hm h,h⟩) T (ZQT hd hle _ _ _)) HA (al1' _ (by decide)) st0 ac1)
 ·obtain ⟨x,g1,hx⟩:=vx (Zy.1 ha.h2)
  obtain ⟨y,g3,hy2⟩:=vx (Zy.1 ha.h3)
  obtain ⟨d,m,g2,hd,gm,hm⟩:=ax (Zy.1 ha.h4)
  have hY:0≤Y∧Y<cc.1:=Zy.1 ha.h3
  obtain ⟨y',gy'⟩:=ZJ (e.2.1.set X.toNat (mSpan x (0,m - 1))) Y (by rw [List.length_set];omega)
  refine ZeQ (Z0L u t n e l cc T X Y G N op nx el ht hu hl hn hE hc ha) (ZMq u t n e l cc T X Y G N op nx el g1 g3 gm g2 gy' hu hle hn hE hc ha)
   (ZeW he1 (ZrL fun h _=>?_) HA (al1' _ (by decide)) (st1 ⟨hy2.1,hy2.2,hb⟩ rfl) ac1)
  have hs:=ZIf (envV hE) X.toNat (v:=mSpan x (0,m - 1)) ⟨ZQ4 hx.1 hm h,h⟩
  have hy':=hs y' (mG0 gy')
  exact Zv0 hE (by simp) rfl (by simp) hs (envG hE) (ZIf (envA hE) _ ⟨Zhv hd.1 hy'.1,(ZbQ (Qs.2 (.inr (Zla hd.2))) hd.2).2⟩) hb hy
 ·refine ZeQ (Z0M u t n e l cc T X Y G N op nx el ht hu hl hn hE hc ha) (ZMr u t n e l cc T X Y G N op nx el hu hle hn hE hc ha)
   (ZeW he1 (ZrL fun h _=>?_) HA (al1 _ (by decide)) st0 ac0)
  have hg:∀ (L:List I) (ar:Bool),(∀ x∈L,isB x=true∧Zd x=false)→∀ x∈gmap l t ar e.2.2.2.2.1 G L,isB x=true∧Zd x=false:=fun L ar hL x hx=>by
   unfold gmap at hx
   rw [List.mem_mapIdx] at hx
   obtain ⟨i,hi,rfl⟩:=hx
   have:=hL _ (List.getElem_mem hi)
   exact ⟨Zhv this.1 (Zoc hle),(ZbQ (Qs.2 (.inr (Zla this.2))) this.2).2⟩
  exact Zv0 hE rfl (by simp [gmap]) (by simp [gmap]) (envV hE) (hg _ _ (envG hE)) (hg _ _ (envA hE)) (ZlK _ _ hb).1 (ZlK _ _ hy).1
 ·exact ZeQ (ZZM u t n e l cc T X Y G N op nx el ht hu hl hn hE hc ha) (ZIx u t n e l cc T X Y G N op nx el hu hle hn hE hc ha)
   (ZeW he1 (bif_ok' fun h=>Zv0 hE rfl rfl rfl (envV hE) (envG hE) (envA hE) (ZlL _ _ hb).1 (ZlL _ _ hy).1) HA (al1' _ (by decide)) st0 ac0)
 ·obtain ⟨x,g1,hx⟩:=vx (Zy.1 ha.h2)
  obtain ⟨y,g2,hy⟩:=vx (Zy.1 ha.h3)
  obtain ⟨w,n1⟩:=ZH2 op
  exact ZeQ (ZZN u t n e l cc T X Y G N op nx el ht hu hl hn hE hc ha) (ZIy u t n e l cc T X Y G N op nx el g1 g2 n1 hu hle hn hE hc ha)
   (ZeW he1 (ZQ3 hE hx hy _ _ _) (ZQ3 hE hx hy _ _ _) al0 st0 ac0)
 ·exact ZeQ (ZZO u t n e l cc T X Y G N op nx el ht hu hl hn hE hc ha) (ZIz u t n e l cc T X Y G N op nx el hu hle hn hE hc ha) (ZeW he1 (fun _=>hE) HA al0 st0 ac0)
 ·exact ZeQ (ZZP u t n e l cc T X Y G N op nx el ht hu hl hn hE hc ha) (ZIA u t n e l cc T X Y G N op nx el hu hle hn hE hc ha) (ZeW he1 HA HA ⟨by decide,by decide⟩ st0 ac0)
 ·exact ZeQ (ZZQ u t n e l cc T X Y G N op nx el ht hu hl hn hE hc ha) (ZIB u t n e l cc T X Y G N op nx el hu hle hn hE hc ha) (ZeW he1 HA HA al0 st0 ac0)
end
end
abbrev KY:=((List En)×Int×Int×Bool×Int×Int×Int×Int)
abbrev QM:=((List En)×Int×Int×Bool×Int×Int×Int×Int)
def HL (s0:List En) (s6 b0:Int) (b0_1:Bool) (b0_2 b0_3 b0_4 b0_5:Int):Option (((List En)×Int×Int×Bool×Int×Int×Int×Int)⊕((List En)×Int×Int×Bool×Int×Int×Int×Int)):=bif decide (s6<(s0.length:Int)) then bif decide (0≤s6) then Za s0[s6.toNat]? none fun d10=>Za (QW (d10,(b0,b0_1,b0_2,b0_3,b0_4,b0_5),())) none fun d11=>bif decide (d11<0) then some (.inl (s0,IntKind.i64.wrap (s6+1),b0,b0_1,b0_2,b0_3,b0_4,b0_5)) else some (.inr (s0,s6,b0,b0_1,b0_2,b0_3,b0_4,b0_5)) else none else some (.inr (s0,s6,b0,b0_1,b0_2,b0_3,b0_4,b0_5))
def ZlE:KY→Option (KY⊕QM):=fun (a,b,c,d,e,f,g,h)=>HL a b c d e f g h
def KN (x:KY):Option QM:=Zn ZlE Zr x
def Zh7 (a0:List En) (a1:En):Option (Int×(Bool×Unit)):=Za (KN (a0,0,a1)) none fun d4=>bif decide (d4.2.1<(d4.1.length:Int)) then bif decide (0≤d4.2.1) then Za d4.1[d4.2.1.toNat]? none fun d5=>Za (QW (d5,d4.2.2,())) none fun d6=>some (d4.2.1,d6==0,PUnit.unit) else none else some (d4.2.1,false,PUnit.unit)
def QX (x:(List En)×(En×Unit)):Option (Int×(Bool×Unit)):=Zh7 x.1 x.2.1
abbrev Hu:=((List En)×Int×(List En))
abbrev JG:=(List En)
def W8 (s1:List En) (s5:Int) (b0:List En):Option (((List En)×Int×(List En))⊕(List En)):=bif decide (s5<(s1.length:Int)) then bif decide (0≤s5) then Za s1[s5.toNat]? none fun d5=>bif decide (d5.2.2.2.2.1>d5.2.2.2.2.2) then some (.inl (s1,IntKind.i64.wrap (s5+1),b0)) else bif decide (0≤s5) then Za s1[s5.toNat]? none fun d6=>Za (QX (b0,d6,())) none fun d7=>bif d7.2.1 then bif decide (0≤d7.1) then Za b0[Int.toNat d7.1]? none fun d8=>Za b0[Int.toNat d7.1]? none fun d9=>bif decide (0≤s5) then Za s1[s5.toNat]? none fun d10=>Za (ZH (d9.2.2.2.2,d10.2.2.2.2,())) none fun d11=>bif decide (0≤d7.1) then Za b0[Int.toNat d7.1]? none fun d12=>Za b0[Int.toNat d7.1]? none fun d13=>some (.inl (s1,IntKind.i64.wrap (s5+1),b0.set (Int.toNat d7.1) (d13.1,d13.2.1,d13.2.2.1,d13.2.2.2.1,d11))) else none else none else none else bif decide ((0:Int)≤0∧0≤d7.1∧d7.1≤(b0.length:Int)) then bif decide (((List.length (α:=I) [])+(List.drop (Int.toNat (0:Int)) (List.take (Int.toNat d7.1) b0)).length+1)*48≤lim) then bif decide (0≤s5) then Za s1[s5.toNat]? none fun d8=>bif decide ((([]++List.drop (Int.toNat (0:Int)) (List.take (Int.toNat d7.1) b0)).length+[d8].length+1)*48≤lim) then bif decide (0≤d7.1∧d7.1≤(b0.length:Int)∧(b0.length:Int)≤(b0.length:Int)) then bif decide ((([]++List.drop (Int.toNat (0:Int)) (List.take (Int.toNat d7.1) b0)++[d8]).length+(List.drop (Int.toNat d7.1) (List.take (b0.length:Int).toNat b0)).length+1)*48≤lim) then some (.inl (s1,IntKind.i64.wrap (s5+1),
 []++List.drop (Int.toNat (0:Int)) (List.take (Int.toNat d7.1) b0)++[d8]++List.drop (Int.toNat d7.1) (List.take (b0.length:Int).toNat b0))) else none else none else none else none else none else none else none else none else some (.inr b0)
def ZnJ:Hu→Option (Hu⊕JG):=fun (a,b,c)=>W8 a b c
def ZeE (x:Hu):Option JG:=Zn ZnJ Zr x
def Zik (a0 a1:List En):Option (List En):=bif decide (((List.length (α:=I) [])+a0.length+1)*48≤lim) then Za (ZeE (a1,0,[]++a0)) none fun d4=>some d4 else none
def Zih (x:((List En)×((List En)×Unit))):Option (List En):=Zik x.1 x.2.1
def QT  (s1:(List En)) (i:Nat) (b0:(List En)) (d:En):Option ((List En)⊕JG):=
 bif decide (d.2.2.2.2.1>d.2.2.2.2.2) then
  some (.inl (b0))
 else Za (QX (b0,d,())) (none) fun d7=>
  bif d7.2.1 then
  bif decide (0≤d7.1) then
  Za b0[Int.toNat d7.1]? (none) fun d8=>
  Za b0[Int.toNat d7.1]? (none) fun d9=>
  Za (ZH (d9.2.2.2.2,d.2.2.2.2,())) (none) fun d11=>
  bif decide (0≤d7.1) then
  Za b0[Int.toNat d7.1]? (none) fun d12=>
  Za b0[Int.toNat d7.1]? (none) fun d13=>
  some (.inl (b0.set (Int.toNat d7.1) (d13.1,d13.2.1,d13.2.2.1,d13.2.2.2.1,d11)))
 else none
 else none
 else bif decide ((0:Int)≤0∧0≤d7.1∧d7.1≤(↑b0.length:Int)) then
  bif decide (((List.length (α:=I) [])+(List.drop (Int.toNat (0:Int)) (List.take (Int.toNat d7.1) b0)).length+1)*48≤lim) then
  bif decide ((([]++List.drop (Int.toNat (0:Int)) (List.take (Int.toNat d7.1) b0)).length+[d].length+1)*48≤lim) then
  bif decide (0≤d7.1∧d7.1≤(↑b0.length:Int)∧(↑b0.length:Int)≤(↑b0.length:Int)) then
  bif decide ((([]++List.drop (Int.toNat (0:Int)) (List.take (Int.toNat d7.1) b0)++[d]).length+(List.drop (Int.toNat d7.1) (List.take (↑b0.length:Int).toNat b0)).length+1)*48≤lim) then
  some (.inl ([]++List.drop (Int.toNat (0:Int)) (List.take (Int.toNat d7.1) b0)++[d]++List.drop (Int.toNat d7.1) (List.take (↑b0.length:Int).toNat b0)))
 else none
 else none
 else none
 else none
 else none
def Zir  (s1:(List En)) (b0:(List En)):Option JG:=
 some b0
abbrev ZBQ  (s1:(List En)) (i:Nat) (s:(List En)):Hu:=(s1,(i:Int),s)
def Zdz  (s1:(List En)) (s:(List En)):Option JG:=Zq (fun i s d=>QT  s1 i s d) (fun s=>Zir  s1 s) 0 s1 s
theorem Znz  (s1:(List En)) (s:(List En)) (hl:s1.length<9223372036854775807):ZeE (s1,0,s)=Zdz  s1 s:=by
 unfold ZeE Zdz
 refine Zs s1 (ZBQ  s1) _ _ ?_ ?_ s (by unfold Zr;omega)
 ·intro i s d hi hd
  have e1:decide ((i:Int)<(s1.length:Int))=true:=dT0 (by omega)
  have e2:decide (0≤(i:Int))=true:=dT0 (by omega)
  have e3:Int.toNat (i:Int)=i:=tN0 i
  have e4:=Zu hi (Nat.le_of_lt hl)
  show W8 (s1) ((i:Int)) (s)=upd _ (QT  s1 i s d)
  unfold W8 QT
  simp only [e1,e2,e3,e4,hd,cond_true,cond_false,Zc,ZD,ZG,ZE,ZK,ZL,ZF]
 ·intro s
  have e1:decide ((s1.length:Int)<(s1.length:Int))=false:=dF0 (by omega)
  show W8 (s1) ((s1.length:Int)) (s)=_
  unfold W8 Zir
  rw [e1]
  rfl
def Z9 (b0:Int) (b0_1:Bool) (b0_2 b0_3 b0_4 b0_5:Int) (s0:List En) (i:Nat)  (d:En):Option (Unit⊕QM):=
 Za (QW (d,(b0,b0_1,b0_2,b0_3,b0_4,b0_5),())) (none) fun d11=>
  bif decide (d11<0) then
  some (.inl ())
 else some (.inr (s0,(i:Int),b0,b0_1,b0_2,b0_3,b0_4,b0_5))
def ZbH (b0:Int) (b0_1:Bool) (b0_2 b0_3 b0_4 b0_5:Int) (s0:List En):Option QM:=
 some (s0,(s0.length:Int),b0,b0_1,b0_2,b0_3,b0_4,b0_5)
abbrev Zxd (b0:Int) (b0_1:Bool) (b0_2 b0_3 b0_4 b0_5:Int) (s0:List En) (i:Nat) (s:Unit):KY:=(s0,(i:Int),b0,b0_1,b0_2,b0_3,b0_4,b0_5)
def Zlr (b0:Int) (b0_1:Bool) (b0_2 b0_3 b0_4 b0_5:Int) (s0:List En) (s:Unit):Option QM:=Zq (fun i s d=>Z9 b0 b0_1 b0_2 b0_3 b0_4 b0_5 s0 i  d) (fun s=>ZbH b0 b0_1 b0_2 b0_3 b0_4 b0_5 s0 ) 0 s0 s
theorem Zlq (b0:Int) (b0_1:Bool) (b0_2 b0_3 b0_4 b0_5:Int) (s0:List En) (s:Unit) (hl:s0.length<9223372036854775807):KN (s0,0,b0,b0_1,b0_2,b0_3,b0_4,b0_5)=Zlr b0 b0_1 b0_2 b0_3 b0_4 b0_5 s0 s:=by
 unfold KN Zlr
 refine Zs s0 (Zxd b0 b0_1 b0_2 b0_3 b0_4 b0_5 s0) _ _ ?_ ?_ s (by unfold Zr;omega)
 ·intro i s d hi hd
  have e1:decide ((i:Int)<(s0.length:Int))=true:=dT0 (by omega)
  have e2:decide (0≤(i:Int))=true:=dT0 (by omega)
  have e3:Int.toNat (i:Int)=i:=tN0 i
  have e4:=Zu hi (Nat.le_of_lt hl)
  show HL (s0) ((i:Int)) (b0) (b0_1) (b0_2) (b0_3) (b0_4) (b0_5)=upd _ (Z9 b0 b0_1 b0_2 b0_3 b0_4 b0_5 s0 i  d)
  unfold HL Z9
  simp only [e1,e2,e3,e4,hd,cond_true,cond_false,Zc,ZD,ZG,ZE,ZK,ZL,ZF]
 ·intro s
  have e1:decide ((s0.length:Int)<(s0.length:Int))=false:=dF0 (by omega)
  show HL (s0) ((s0.length:Int)) (b0) (b0_1) (b0_2) (b0_3) (b0_4) (b0_5)=_
  unfold HL ZbH
  rw [e1]
  rfl
abbrev Ky:=Int×Bool×Int×Int
def ky (e:En):Ky:=(e.1,e.2.1,e.2.2.1,e.2.2.2.1)
def vl (e:En):I:=e.2.2.2.2
def arrK (b:Bool):Int:=if b=true then 1 else 0
theorem ZP8 {a b:Bool}:arrK a=arrK b↔a=b:=by cases a<;>cases b<;>decide
def ltK (a b:Ky):Prop:=a.1<b.1∨a.1=b.1∧(arrK a.2.1<arrK b.2.1∨arrK a.2.1=arrK b.2.1∧(a.2.2.1<b.2.2.1∨a.2.2.1=b.2.2.1∧a.2.2.2<b.2.2.2))
theorem ZEm (a b:En):ordI a b=cmpI a.1 b.1 (cmpI (arrK a.2.1) (arrK b.2.1) (cmpI a.2.2.1 b.2.2.1 (cmpI a.2.2.2.1 b.2.2.2.1 0))):=rfl
theorem Zps {a b:En}:ordI a b<0↔ltK (ky a) (ky b):=by
 rw [ZEm]
 unfold ltK ky
 simp only
 generalize arrK a.2.1=p
 generalize arrK b.2.1=q
 unfold cmpI
 (repeat' split)<;>omega
theorem Zpr {a b:En}:ordI a b=0↔ky a=ky b:=by
 have h:ky a=ky b↔(a.1=b.1∧arrK a.2.1=arrK b.2.1∧a.2.2.1=b.2.2.1∧a.2.2.2.1=b.2.2.2.1):=by
  simp only [ky,Prod.mk.injEq,ZP8]
 rw [h,ZEm]
 generalize arrK a.2.1=p
 generalize arrK b.2.1=q
 unfold cmpI
 (repeat' split)<;>omega
theorem Zpp {a b c:Ky} (h:ltK a b) (k:ltK b c):ltK a c:=by unfold ltK at *;omega
theorem ZQC {a b:Ky} (h:¬ ltK a b) (k:a≠b):ltK b a:=by
 have e:a=b↔(a.1=b.1∧arrK a.2.1=arrK b.2.1∧a.2.2.1=b.2.2.1∧a.2.2.2=b.2.2.2):=by
  obtain ⟨a1,a2,a3,a4⟩:=a
  obtain ⟨b1,b2,b3,b4⟩:=b
  simp only [Prod.mk.injEq,ZP8]
 rw [Ne,e] at k
 unfold ltK at *;omega
def srt (l:List En):Prop:=l.Pairwise fun a b=>ltK (ky a) (ky b)
theorem ZTw:∀ {l:List En},(∀ (i:Nat) (a b:En),l[i]? = some a→l[i+1]? = some b→ordI a b<0)→srt l
 | [],_=>List.Pairwise.nil
 | [a],_=>List.pairwise_singleton _ _
 | a::b::r,h=>by
  have ih:srt (b::r):=ZTw fun i x y hx hy=>h (i+1) x y hx hy
  have ab:ltK (ky a) (ky b):=Zps.1 (h 0 a b rfl rfl)
  refine List.pairwise_cons.2 ⟨fun c hc=>?_,ih⟩
  rcases List.mem_cons.1 hc with rfl | hc
  ·exact ab
  ·exact Zpp ab ((List.pairwise_cons.1 ih).1 c hc)
theorem ZUU {l:List En} (h:srt l) (i:Nat) (a b:En) (ha:l[i]? = some a) (hb:l[i+1]? = some b):ordI a b<0:=by
 rw [Zps]
 obtain ⟨h1,rfl⟩:=List.getElem?_eq_some_iff.1 ha
 obtain ⟨h2,rfl⟩:=List.getElem?_eq_some_iff.1 hb
 exact List.pairwise_iff_getElem.1 h i (i+1) h1 h2 (by omega)
theorem tabOK.srt {l:List En} (h:tabOK l):srt l:=ZTw h.s
theorem ZUj {l:List En} (he:∀ x∈l,entOK x) (hs:srt l):ZwB l=true:=by
 unfold ZwB
 rw [Zle]
 intro j d hd
 have e:=he d (mG0 hd)
 unfold ZrJ entB
 rw [e.v,e.n,dF0 (show ¬ d.2.2.2.1<0 by have:=e.h;omega),dF0 (show ¬ d.2.2.2.1≥2147483648 by have:=e.h;omega),Nat.zero_add]
 simp only [Bool.not_false,Bool.and_self,Bool.true_and]
 by_cases hj:j>0
 ·rw [dT0 hj,cond_true]
  have hlt:j<l.length:=(List.getElem?_eq_some_iff.1 hd).1
  rw [List.getElem?_eq_getElem (show j - 1<l.length by omega)]
  simp only [Option.elim_some]
  have:=ZUU hs (j - 1) _ d (List.getElem?_eq_getElem (by omega)) (by rw [show j - 1+1=j by omega];exact hd)
  rw [dF0 (by omega)];rfl
 ·rw [dF0 hj];rfl
def setV (d:En) (v:I):En:=(d.1,d.2.1,d.2.2.1,d.2.2.2.1,v)
def pinT (f:I→I→I) (e:En):List En→List En
 | []=>[e]
 | d::r=>if ordI d e<0 then d::pinT f e r else if ordI d e=0 then setV d (f (vl d) (vl e))::r else e::d::r
def posT (e:En):List En→Nat
 | []=>0
 | d::r=>if ordI d e<0 then posT e r+1 else 0
def fndT (e:En):List En→Bool
 | []=>false
 | d::r=>if ordI d e<0 then fndT e r else ordI d e==0
theorem ZDz (e:En):∀ l,posT e l≤l.length
 | []=>Nat.le_refl _
 | d::r=>by unfold posT;have:=ZDz e r;rw [List.length_cons];split<;>omega
theorem Zy1 (e:En):∀ (l:List En) (j:Nat) (d:En),j<posT e l→l[j]? = some d→ordI d e<0
 | [],j,d,h,_=>by simp [posT] at h
 | c::r,j,d,h,hd=>by
  unfold posT at h
  split at h
  ·rename_i hc
   cases j with
   | zero=>cases hd;exact hc
   | succ j=>exact Zy1 e r j d (by omega) hd
  ·omega
theorem ZDy {e:En}:∀ {l:List En},srt l→∀ (j:Nat) (d:En),posT e l≤j→l[j]? = some d→¬ ordI d e<0
 | c::r,hs,j,d,h,hd=>by
  have k:=List.pairwise_cons.1 hs
  unfold posT at h
  split at h
  ·cases j with
   | zero=>omega
   | succ j=>exact ZDy k.2 j d (by omega) hd
  ·rename_i hc
   cases j with
   | zero=>cases hd;exact hc
   | succ j=>
    intro q
    rw [Zps] at q hc
    exact hc (Zpp (k.1 d (mG0 (l:=r) (i:=j) hd)) q)
theorem Zo0 (e:En):∀ (l:List En),fndT e l=true→∃ d,l[posT e l]? = some d∧ky d=ky e
 | [],h=>nomatch h
 | d::r,h=>by
  unfold fndT at h
  unfold posT
  split
  ·rename_i hc;rw [if_pos hc] at h;exact Zo0 e r h
  ·rename_i hc;rw [if_neg hc] at h;exact ⟨d,rfl,Zpr.1 (beq_iff_eq.1 h)⟩
theorem ZNm (e:En):∀ (l:List En),fndT e l=false→∀ d,l[posT e l]? = some d→¬ ordI d e=0
 | [],h,d,hd=>by simp [posT] at hd
 | c::r,h,d,hd=>by
  unfold fndT at h
  unfold posT at hd
  split at hd
  ·rename_i hc;rw [if_pos hc] at h;exact ZNm e r h d hd
  ·rename_i hc;rw [if_neg hc] at h;cases hd;exact beq_eq_false_iff_ne.1 h
theorem ZEp (f:I→I→I) (e:En):∀ (l:List En),fndT e l=false→pinT f e l=l.take (posT e l)++e::l.drop (posT e l)
 | [],_=>rfl
 | d::r,h=>by
  unfold fndT at h
  unfold pinT posT
  by_cases hc:ordI d e<0
  ·rw [if_pos hc] at h ⊢
   rw [if_pos hc,ZEp f e r h];rfl
  ·rw [if_neg hc] at h ⊢
   rw [if_neg hc,if_neg (beq_eq_false_iff_ne.1 h)];rfl
theorem ZEq (f:I→I→I) (e:En):∀ (l:List En) (d:En),fndT e l=true→l[posT e l]? = some d→pinT f e l=l.set (posT e l) (setV d (f (vl d) (vl e)))
 | [],d,h,_=>nomatch h
 | c::r,d,h,hd=>by
  unfold fndT at h
  unfold posT at hd
  unfold pinT posT
  by_cases hc:ordI c e<0
  ·rw [if_pos hc] at h hd ⊢
   rw [if_pos hc,ZEq f e r d h hd];rfl
  ·rw [if_neg hc] at h hd ⊢
   rw [if_neg hc,if_pos (beq_iff_eq.1 h)]
   cases hd;rfl
theorem ZJA {f:I→I→I} {e:En}:∀ {l:List En} {x:En},x∈pinT f e l→x∈l∨x=e∨∃ d∈l,ky d=ky e∧x=setV d (f (vl d) (vl e))
 | [],x,h=>.inr (.inl (List.mem_singleton.1 h))
 | d::r,x,h=>by
  unfold pinT at h
  split at h
  ·rcases List.mem_cons.1 h with rfl | h
   ·exact .inl (List.mem_cons_self ..)
   ·rcases ZJA h with h | h | ⟨c,hc,h⟩
    ·exact .inl (List.mem_cons_of_mem _ h)
    ·exact .inr (.inl h)
    ·exact .inr (.inr ⟨c,List.mem_cons_of_mem _ hc,h⟩)
  ·split at h
   ·rename_i hz
    rcases List.mem_cons.1 h with rfl | h
    ·exact .inr (.inr ⟨d,List.mem_cons_self ..,Zpr.1 hz,rfl⟩)
    ·exact .inl (List.mem_cons_of_mem _ h)
   ·rcases List.mem_cons.1 h with rfl | h
    ·exact .inr (.inl rfl)
    ·exact .inl h
theorem ZQO (f:I→I→I) (e:En):∀ l,(pinT f e l).length≤l.length+1
 | []=>Nat.le_refl _
 | d::r=>by
  unfold pinT
  have:=ZQO f e r
  (repeat' split)<;>simp only [List.length_cons]<;>omega
theorem ZSM (d:En) (v:I):ky (setV d v)=ky d:=rfl
theorem ZQP {f:I→I→I} {e:En}:∀ {l:List En},srt l→srt (pinT f e l)
 | [],_=>List.pairwise_singleton _ _
 | d::r,hs=>by
  have k:=List.pairwise_cons.1 hs
  unfold pinT
  split
  ·rename_i hc
   refine List.pairwise_cons.2 ⟨fun x hx=>?_,ZQP k.2⟩
   rcases ZJA hx with h | rfl | ⟨c,hc',_,rfl⟩
   ·exact k.1 x h
   ·exact Zps.1 hc
   ·rw [ZSM];exact k.1 c hc'
  ·split
   ·exact List.pairwise_cons.2 ⟨fun x hx=>k.1 x hx,k.2⟩
   ·rename_i h1 h2
    rw [Zps] at h1
    rw [Zpr] at h2
    have hed:=ZQC h1 h2
    refine List.pairwise_cons.2 ⟨fun x hx=>?_,hs⟩
    rcases List.mem_cons.1 hx with rfl | hx
    ·exact hed
    ·exact Zpp hed (k.1 x hx)
def ZEy:List Sh:=[.dat (.int .i64)]
def ZG5:List Con:=[]
def ZHE (a0:Int):Option Bool:=some (a0 !=a0)
def ZtC (x:Int×Unit):Option Bool:=ZHE x.1
def Zqj:=conP true ZEy (.dat .bool) ZtC
theorem ZE9:Zg Tryz.prog 186 Zqj:=Ze (calU ZG5 [] 40 1048576 8 186) true (by rfl) (by rfl) (fun x r e=>(Zk _ _ _ _ _ _ _).trans ((show _=ZtC x by kernel_rfl).trans e)) (.inl rfl)
def ZAO:List Sh:=[.dat (.int .i64),.dat (.int .i64)]
def ZDO:List Con:=[⟨186,Zqj,ZE9⟩]
def Zkh (a0 a1:Int):Option Int:=bif a0 !=a0 then bif a1 !=a1 then some 0 else some (-1) else bif a1 !=a1 then some 1 else bif decide (a0<a1) then some (-1) else bif decide (a0>a1) then some 1 else some 0
def Wo (x:Int×(Int×Unit)):Option Int:=Zkh x.1 x.2.1
def Znh:=conP true ZAO (.dat (.int .i64)) Wo
theorem ZBW:Zg Tryz.prog 205 Znh:=Ze (calU ZDO [] 40 1048576 8 205) true (by rfl) (by rfl) (fun x r e=>(Zk _ _ _ _ _ _ _).trans ((show _=Wo x by kernel_rfl).trans e)) (.inl rfl)
def ZMZ:List Sh:=[.dat .bool]
def ZP0:List Con:=[]
def ZHK (a0:Bool):Option Int:=bif a0 then some 1 else some 0
def ZlX (x:Bool×Unit):Option Int:=ZHK x.1
def ZCC:=conP true ZMZ (.dat (.int .i64)) ZlX
theorem ZOB:Zg Tryz.prog 206 ZCC:=Ze (calU ZP0 [] 40 1048576 8 206) true (by rfl) (by rfl) (fun x r e=>(Zk _ _ _ _ _ _ _).trans ((show _=ZlX x by kernel_rfl).trans e)) (.inl rfl)
def ZIJ:List Sh:=[.dat (.sl (.int .i64))]
def Znp:Nat→List Nat:=fun c=>bif c.beq 0 then [3,6,7,8] else [2,3]
def ZAC:List Con:=[]
def Zcs:StS:=⟨[(3,.int .i64),(6,.sl (.int .i64)),(7,.int .i64),(8,.int .i64)],[],0⟩
def YW:StS:=⟨[(2,.undef),(3,.int .i64)],[],0⟩
def YX:StS:=⟨[(2,.int .i64),(3,.int .i64)],[],0⟩
abbrev KO:=(Int×(List Int)×Int×Int)
def Zv5:StD Zcs→KO:=fun ((a,b,c,d,_),_)=>(a,b,c,d)
def ZxD:KO→StD Zcs:=fun (a,b,c,d)=>((a,b,c,d,()),())
abbrev QD:=Int
def Zs8 (d:StD YW):QD:=(d.1.2.1)
def Zd7 (x:QD):StD YW:=(((),x,()),())
abbrev QE:=(Int×Int)
def Zs9 (d:StD YX):QE:=(d.1.1,d.1.2.1)
def Zd8 (x:QE):StD YX:=((x.1,x.2,()),())
def HD (s3:Int) (s6:List Int) (s7 s8:Int):Option ((Int×(List Int)×Int×Int)⊕(Int⊕(Int×Int))):=bif decide (s8<s7) then bif decide (0≤s8) then Za s6[s8.toNat]? none fun d6=>bif d6 !=s3 then some (.inr (.inr (d6,s3))) else some (.inl (s3,s6,s7,IntKind.i64.wrap (s8+1))) else none else some (.inr (.inl s3))
def Zlw:KO→Option (KO⊕(QD⊕QE)):=fun (a,b,c,d)=>HD a b c d
def Vr (x:KO):Option (QD⊕QE):=Zn Zlw Zr x
def Zpt:Nat→Tm→Prog (Nat×Tm):=(varP 0 (fun T h=>(rdS Zcs T h).map Zv5) Vr (fun y=>.alt y (altE 2 YW Zd7) (altE 1 YX Zd8)) (fun _ _=>.fail))
def ZBo:Lpc:=⟨204,0,18,(fun base T=>.norm base (Znp 0) T (Zpt base)),by kernel_rfl,by kernel_rfl,(loopU ZAC [] 40 1048576 8 (keep:=Znp) (q:=Zpt) (by kernel_rfl) (ZA (s:=Zcs) (un:=ZxD) (by rfl) (fun _=>rfl) (Qh (Zp (s:=YW) (un:=Zd7) (flat:=Zs8) (by rfl) (fun _=>rfl)) (Zp (s:=YX) (un:=Zd8) (flat:=Zs9) (by rfl) (fun _=>rfl))) (step:=Zlw) (fun _=>by kernel_rfl) (fun _ _ e=>⟨_,e⟩) (Qg (Zo 2 YW Zd7) (Zo 1 YX Zd8)) (ZI.fail _ _)))⟩
def Zr3 (a0:List Int):Option Int:=Za (Vr (0,a0,(a0.length:Int),0)) none fun d3=>Sum.elim (fun e4=>some e4) (fun e4=>some e4.1) d3
def ZlO (x:(List Int)×Unit):Option Int:=Zr3 x.1
def ZvK:=conP true ZIJ (.dat (.int .i64)) ZlO
theorem ZJO:Zg Tryz.prog 204 ZvK:=Ze (calU ZAC [ZBo] 40 1048576 8 204) true (by rfl) (by rfl) (fun x r e=>(Zk _ _ _ _ _ _ _).trans ((show _=ZlO x by kernel_rfl).trans e)) (.inl rfl)
def ZLG:List Sh:=[.dat tEn,.dat tEn]
def ZOR:List Con:=[⟨205,Znh,ZBW⟩,⟨206,ZCC,ZOB⟩,⟨204,ZvK,ZJO⟩]
def Zvo (a0 a1:En):Option Int:=Za (Wo (a0.1,a1.1,())) none fun d3=>Za (ZlX (a0.2.1,())) none fun d4=>Za (ZlX (a1.2.1,())) none fun d5=>Za (Wo (a0.2.2.1,a1.2.2.1,())) none fun d6=>Za (Wo (a0.2.2.2.1,a1.2.2.2.1,())) none fun d7=>Za (ZlO ([d3,IntKind.i64.wrap (d4 - d5),d6,d7],())) none fun d8=>some d8
def Zii (x:En×(En×Unit)):Option Int:=Zvo x.1 x.2.1
def ZAr:=conP true ZLG (.dat (.int .i64)) Zii
theorem ZL2:Zg Tryz.prog 188 ZAr:=Ze (calU ZOR [] 40 1048576 8 188) true (by rfl) (by rfl) (fun x r e=>(Zk _ _ _ _ _ _ _).trans ((show _=Zii x by kernel_rfl).trans e)) (.inl rfl)
abbrev Zum:Type:=((List En)×Int×Int×Int×Int×Bool×Int×Int×Int×Int×Int×Bool×Int×Int×Int×Int)
abbrev Zun:Type:=((List En)×Int×Int×Int×Bool×Int×Int×Int×Int×Int×Bool×Int×Int×Int×Int)
def ZMY:List Sh:=[.dat (.sl tEn),.dat tEn]
def ZqB:Nat→List Nat:=fun c=>bif c.beq 0 then [0,2,4,8,9,10] else [0,2,4,8,9]
def ZF6:List Con:=[⟨188,ZAr,ZL2⟩]
def Zfe:StS:=⟨[(0,.sl tEn),(2,.clo 188 [] []),(4,.ptr 1 0),(8,.int .i64),(9,.int .i64),(10,.int .i64)],[(0,.box [.int .i64,.bool,.int .i64,.int .i64,.int .i64,.int .i64]),(1,.box [.int .i64,.bool,.int .i64,.int .i64,.int .i64,.int .i64])],2⟩
def Wn:StS:=⟨[(0,.sl tEn),(2,.clo 188 [] []),(4,.ptr 1 0),(8,.int .i64),(9,.int .i64)],[(0,.box [.int .i64,.bool,.int .i64,.int .i64,.int .i64,.int .i64]),(1,.box [.int .i64,.bool,.int .i64,.int .i64,.int .i64,.int .i64])],2⟩
abbrev Za2:=Zum
def ZBn:StD Zfe→Za2:=fun ((a,(_,_),_,b,c,d,_),((e,f,g,h,i,j,_),(k,l,m,n,o,p,_),_))=>(a,b,c,d,e,f,g,h,i,j,k,l,m,n,o,p)
def ZCg:Za2→StD Zfe:=fun (a,b,c,d,e,f,g,h,i,j,k,l,m,n,o,p)=>((a,((),()),(),b,c,d,()),((e,f,g,h,i,j,()),(k,l,m,n,o,p,()),()))
abbrev Zce:=Zun
def Zww:StD Wn→Zce:=fun ((a,(_,_),_,b,c,_),((d,e,f,g,h,i,_),(j,k,l,m,n,o,_),_))=>(a,b,c,d,e,f,g,h,i,j,k,l,m,n,o)
def ZgZ:Zce→StD Wn:=fun (a,b,c,d,e,f,g,h,i,j,k,l,m,n,o)=>((a,((),()),(),b,c,()),((d,e,f,g,h,i,()),(j,k,l,m,n,o,()),()))
def ZnD (s0:List En) (s8 s9 s10 b0:Int) (b0_1:Bool) (b0_2 b0_3 b0_4 b0_5 b1:Int) (b1_1:Bool) (b1_2 b1_3 b1_4 b1_5:Int):Option (Zum⊕Zun):=bif decide (s9<s10) then bif decide (0≤IntKind.i64.wrap ((IntKind.u64.wrap (IntKind.i64.wrap (s9+s10))).fdiv (2 ^ Min.min (Int.toNat 1) IntKind.u64.bits))) then Za s0[(IntKind.i64.wrap ((IntKind.u64.wrap (IntKind.i64.wrap (s9+s10))).fdiv (2 ^ Min.min (Int.toNat 1) IntKind.u64.bits))).toNat]? none fun d18=>Za (Zii (d18,(b1,b1_1,b1_2,b1_3,b1_4,b1_5),())) none fun d19=>bif decide (d19<0) then some (.inl (s0,s8,IntKind.i64.wrap (IntKind.i64.wrap ((IntKind.u64.wrap (IntKind.i64.wrap (s9+s10))).fdiv (2 ^ Min.min (Int.toNat 1) IntKind.u64.bits))+1),s10,b0,b0_1,b0_2,b0_3,b0_4,b0_5,b1,b1_1,b1_2,b1_3,b1_4,b1_5)) else some (.inl (s0,s8,s9,IntKind.i64.wrap ((IntKind.u64.wrap (IntKind.i64.wrap (s9+s10))).fdiv (2 ^ Min.min (Int.toNat 1) IntKind.u64.bits)),b0,b0_1,b0_2,b0_3,b0_4,b0_5,b1,b1_1,b1_2,b1_3,b1_4,b1_5)) else none else some (.inr (s0,s8,s9,b0,b0_1,b0_2,b0_3,b0_4,b0_5,b1,b1_1,b1_2,b1_3,b1_4,b1_5))
def ZdZ:Za2→Option (Za2⊕Zce):=fun (a,b,c,d,e,f,g,h,i,j,k,l,m,n,o,p)=>ZnD a b c d e f g h i j k l m n o p
def Zje (x:Za2):Option Zce:=Zn ZdZ Zr x
def ZsL:Nat→Tm→Prog (Nat×Tm):=(varP 1 (fun T h=>(rdS Zfe T h).map ZBn) Zje (altE 2 Wn ZgZ) (fun _ _=>.fail))
def ZEW:Lpc:=⟨187,0,49,(fun base T=>.norm base (ZqB 0) T (ZsL base)),by kernel_rfl,by kernel_rfl,(loopU ZF6 [] 40 1048576 8 (keep:=ZqB) (q:=ZsL) (by kernel_rfl) (ZA (s:=Zfe) (un:=ZCg) (by rfl) (fun _=>rfl) (Zp (s:=Wn) (un:=ZgZ) (flat:=Zww) (by rfl) (fun _=>rfl)) (step:=ZdZ) (fun _=>by kernel_rfl) (fun _ _ e=>⟨_,e⟩) (Zo 2 Wn ZgZ) (ZI.fail _ _)))⟩
def ZyJ (a0:List En) (a1:En):Option (Int×(Bool×Unit)):=Za (Zje (a0,(a0.length:Int),0,(a0.length:Int),a1.1,a1.2.1,a1.2.2.1,a1.2.2.2.1,a1.2.2.2.2.1,a1.2.2.2.2.2,a1)) none fun d4=>bif decide (d4.2.2.1<d4.2.1) then bif decide (0≤d4.2.2.1) then Za d4.1[d4.2.2.1.toNat]? none fun d5=>Za (Zii (d5,d4.2.2.2.2.2.2.2.2.2,())) none fun d6=>some (d4.2.2.1,d6==0,PUnit.unit) else none else some (d4.2.2.1,false,PUnit.unit)
def Zey (x:(List En)×(En×Unit)):Option (Int×(Bool×Unit)):=ZyJ x.1 x.2.1
def ZrX:=conP false ZMY (.tup [.dat (.int .i64),.dat .bool]) Zey
theorem ZDN:Zg Tryz.prog 154 ZrX:=Ze (calU ZF6 [ZEW] 40 1048576 8 154) false (by rfl) (by rfl) (fun x r e=>(Zk _ _ _ _ _ _ _).trans ((show _=Zey x by kernel_rfl).trans e)) (.inr fun _=>rfl)
def ZbB (s3:Int) (s6:List Int) (i:Nat)  (d:Int):Option (Unit⊕(QD⊕QE)):=
 bif d !=s3 then
  some (.inr (.inr (d,s3)))
 else some (.inl ())
def Zgi (s3:Int) (s6:List Int):Option (QD⊕QE):=
 some (.inl s3)
abbrev Zw6 (s3:Int) (s6:List Int) (i:Nat) (s:Unit):KO:=(s3,s6,(s6.length:Int),(i:Int))
def Zgv (s3:Int) (s6:List Int) (s:Unit):Option (QD⊕QE):=Zq (fun i s d=>ZbB s3 s6 i  d) (fun s=>Zgi s3 s6 ) 0 s6 s
theorem ZwV (s3:Int) (s6:List Int) (s:Unit) (hl:s6.length<9223372036854775807):Vr (s3,s6,(s6.length:Int),0)=Zgv s3 s6 s:=by
 unfold Vr Zgv
 refine Zs s6 (Zw6 s3 s6) _ _ ?_ ?_ s (by unfold Zr;omega)
 ·intro i s d hi hd
  have e1:decide ((i:Int)<(s6.length:Int))=true:=dT0 (by omega)
  have e2:decide (0≤(i:Int))=true:=dT0 (by omega)
  have e3:Int.toNat (i:Int)=i:=tN0 i
  have e4:=Zu hi (Nat.le_of_lt hl)
  show HD (s3) (s6) ((s6.length:Int)) ((i:Int))=upd _ (ZbB s3 s6 i  d)
  unfold HD ZbB
  simp only [e1,e2,e3,e4,hd,cond_true,cond_false,Zc,ZD,ZG,ZE,ZK,ZL,ZF]
 ·intro s
  have e1:decide ((s6.length:Int)<(s6.length:Int))=false:=dF0 (by omega)
  show HD (s3) (s6) ((s6.length:Int)) ((s6.length:Int))=_
  unfold HD Zgi
  rw [e1]
  rfl
def ZvZ:Ctx:={ tab:=tab,spec:=fun _=>none,inl:=inl,lps:=fun _ _=>none,fuel:=40 }
def Zfj:List AV→Prog AV:=ZHt 48 tEn
theorem ZkI:Zg Tryz.prog 106 Zfj:=
 ZFt (cx:=ZvZ) (cal:=fun _ _=>.fail) (i:=⟨(.sl (.st (.pair (.int .i64) (.pair .bool (.pair (.int .i64) (.pair (.int .i64) (.st (.pair (.int .i64) (.int .i64))))))))),24,83,[],false⟩) (ie:=⟨(.st (.pair (.int .i64) (.pair .bool (.pair (.int .i64) (.pair (.int .i64) (.st (.pair (.int .i64) (.int .i64)))))))),48,0,[(0,1),(1,1),(2,1),(3,1),(4,2)],true⟩) (Zos ZsZ) Tryz.func106 (ZNw 106 Tryz.f106 rfl).2 (t:=33) (tb:=4) (s0 := "slices.go:355") (s1 := "slices.go:357") (s2 := "slices.go:358") (s3 := "slices.go:362") (by kernel_rfl) (by kernel_rfl) (by kernel_rfl) rfl rfl rfl rfl
section
section
variable [RT] {P:Program}
theorem ZV0 (v:Value):oneV v=v.oneCell':=by cases v<;>rfl
theorem Zt7 (w:World) (dT sT ty elem:TypeId) (k g o dLen dCap:Nat) (a:Addr) (sLen sCap:Nat) (cur:Array Value) (t:TypeId) (cs:List Value)
  (hu:P.underlying dT=some (.slice elem)) (hs:(P.info? elem).map (·.size)=some k)
  (hg:w.heap[g]? = some (.cells cur t (0,0))) (hn:cs.length=Nat.min sLen dLen*k)
  (hsrc:∀ j v,cs[j]? = some v→w.cell? (a.add j)=some v) (hfit:o+cs.length≤cur.size) (h1:∀ v∈cs,oneV v=true) :
  (Builtin.copy_ #[dT,sT] ty #[.slice (some ⟨g,o,none⟩) dLen dCap,.slice (some a) sLen sCap]).run P w =
   .ok (goInt (Nat.min sLen dLen)) (w.setRow g (cur.toList.take o++cs++cur.toList.drop (o+cs.length)).toArray):=by
 have hl:=run_loadCells_list (P:=P) w a cs hsrc
 have hst:=run_storeCells_at P g o t cs 0 cur w hg (by simpa using hfit) (fun v hv=>by rw [← ZV0];exact h1 v hv)
 rw [hn] at hl
 cases hq:P.info? elem with
 | none=>simp [hq] at hs
 | some i=>
  have hi:i.size=k:=by simpa [hq] using hs
  simp [Builtin.copy_,run_underlying hu,Builtin.lenOf,Builtin.firstCells,sizeOf,typeInfo,hq,hi,hl,hst]
end
end
section
open Go.Proofs Go.Shelf Go.RowKit Go.Lib
structure LayI (P:Program):Prop where
 mixed:P.follows .mixedOrders=true
 f155:P.funcs[155]? = some Tryz.f155
 f189:P.funcs[189]? = some Tryz.f189
 t3:P.underlying 3=some (TypeDesc.int IntKind.i64)
 a3:∀ w,(isAgg 3).run P w=.ok false w
 z3:∀ w,(Go.sizeOf 3).run P w=.ok 1 w
 t4:P.underlying 4=some (TypeDesc.bool)
 a4:∀ w,(isAgg 4).run P w=.ok false w
 z4:∀ w,(Go.sizeOf 4).run P w=.ok 1 w
 z83:∀ w,(Go.sizeOf 83).run P w=.ok 6 w
 t33:P.underlying 33=some (TypeDesc.slice 83)
 a33:∀ w,(isAgg 33).run P w=.ok false w
 z33:∀ w,(Go.sizeOf 33).run P w=.ok 1 w
 i83:∃ i z,P.info? 83=some i∧i.zero=some z∧i.size=6∧i.bytes=48∧z.cells.size=6
theorem ZxZ:Tryz.f155.ntmps=95:=by kernel_rfl
variable {P:Program}
set_option maxHeartbeats 4000000 in
set_option maxRecDepth 100000 in
theorem ZSJ (L:LayI P) (b n c i vb vc:Nat) (vs news:List Value) (vx:Array Value) (et et':TypeId) (w:World) (hi:i<n) (hroom:n+1≤c) (hbig:(n+1)*48≤140737488355328) (hvb:vb≠b)
  (hw:w.heap[b]? = some (.cells vs.toArray et (0,0))) (hvl:vs.length=c*6) (hv:w.heap[vb]? = some (.cells vx et' (0,0))) (hnl:news.length=6) (hnv:∀ (j:Nat) (v:Value),news[j]? = some v→vx[j]? = some v)
  (h1c:∀ v∈vs.take (n*6),oneV v=true) (h1v:∀ v∈news,oneV v=true) :
  Calls P 155 #[.slice (some ⟨b,0,none⟩) n c,.int .i64 i,.slice (some ⟨vb,0,none⟩) 1 vc] w fun e w'=>
   e=.returned (.slice (some ⟨b,0,none⟩) (n+1) c)∧w'=w.drew.setRow b (vs.take (i*6)++news++(vs.drop (i*6)).take ((n - i)*6)++vs.drop ((n+1)*6)).toArray:=by
 have t3:=L.t3;have a3:=L.a3;have z3:=L.z3;have t4:=L.t4;have a4:=L.a4;have z4:=L.z4;have z83:=L.z83;have t33:=L.t33;have a33:=L.a33;have z33:=L.z33
 have u3:=run_underlying L.t3;have u4:=run_underlying L.t4;have u33:=run_underlying L.t33
 have mixed:=L.mixed
 have hz2:¬ ((i:Int)=(n:Int)):=by omega
 have hhead:World.shape? w vb=some (et',vx.size):=by simp [World.shape?,hv]
 have hheadb:World.shape? w b=some (et,vs.toArray.size):=by simp [World.shape?,hw]
 have hov:∀ lb cb,(callFunc 189 #[.slice (some ⟨vb,0,none⟩) 1 vc,.slice (some ⟨b,(i+1)*6,none⟩) lb cb]).run P w=.ok (.value (.bool false)) w:=fun lb cb=>by
  rw [run_callFunc_extern L.f189 (by kernel_rfl) (by kernel_rfl) (by kernel_rfl) (e:=Extern.SlicesOverlaps.overlaps #[33,33] #[4]) (by kernel_rfl),
   Lib.run_overlaps_apart w 33 4 83 L.t33 6 L.z83 ⟨vb,0,none⟩ ⟨b,(i+1)*6,none⟩ 1 vc lb cb hvb et' et vx.size vs.toArray.size hhead hheadb (by simp only [List.size_toArray];omega) (by simp [World.frozen?,hv]) (by simp [World.frozen?,hv])]
  rfl
 have hw1:IntKind.i64.wrap ((i:Int)+1)=(i:Int)+1:=by rw [IntKind.wrap_i64];omega
 have hb1:(0:Int)≤(i:Int)+1:=by omega
 have hb5:(i:Int)+1≤(n:Int)+1:=by omega
 have hin:i≤n:=by omega
 have htn:((i:Int)+1).toNat=i+1:=by omega
 have hb2:¬ (c=i+1):=by omega
 have hb3:(i:Int)≤(n:Int)+1:=by omega
 have hb4:¬ (c=i):=by omega
 obtain ⟨i0,z0,hi0,-,hsz0,-,-⟩:=L.i83
 have hsz:(P.info? 83).map (·.size)=some 6:=by rw [hi0];simp [hsz0]
 have e1:(i+1)*6=i*6+6:=by omega
 have htl:((vs.drop (i*6)).take ((n - i)*6)).length=(n - i)*6:=by rw [List.length_take,List.length_drop];omega
 have hcell:∀ (W:World) (b':Nat) (cs:Array Value) (t':TypeId),W.heap[b']? = some (.cells cs t' (0,0))→∀ o,W.cell? ⟨b',o,none⟩=cs[o]?:=fun W b' cs t' h o=>ZnR h o
 have hwd:w.drew.heap[b]? = some (.cells vs.toArray et (0,0)):=hw
 have hcp1:∀ ty dc sc,(Builtin.copy_ #[33,33] ty #[.slice (some ⟨b,(i+1)*6,none⟩) (n - i) dc,.slice (some ⟨b,i*6,none⟩) (n+1 - i) sc]).run P w.drew =
   .ok (goInt ((n - i:Nat):Int)) (w.drew.setRow b (vs.take ((i+1)*6)++(vs.drop (i*6)).take ((n - i)*6)++vs.drop ((i+1)*6+(n - i)*6)).toArray):=fun ty dc sc=>by
  have h:=Zt7 w.drew 33 33 ty 83 6 b ((i+1)*6) (n - i) dc ⟨b,i*6,none⟩ (n+1 - i) sc vs.toArray et ((vs.drop (i*6)).take ((n - i)*6)) L.t33 hsz hwd
   (by rw [htl];simp only [Nat.min_def];split<;>omega)
   (fun j v hj=>by
    rw [List.getElem?_take] at hj
    split at hj
    ·rw [Addr.add_lit,hcell _ _ _ _ hwd,List.getElem?_toArray];rwa [List.getElem?_drop] at hj
    ·cases hj)
   (by rw [htl];simp only [List.size_toArray];omega) (fun v hv=>h1c v (by rw [Nat.sub_mul,← List.drop_take] at hv;exact List.mem_of_mem_drop hv))
  have hmin:Nat.min (n+1 - i) (n - i)=n - i:=by simp only [Nat.min_def];split<;>omega
  rw [hmin,htl] at h
  exact h
 obtain ⟨C1,hC1⟩:∃ C1:List Value,C1=vs.take ((i+1)*6)++(vs.drop (i*6)).take ((n - i)*6)++vs.drop ((i+1)*6+(n - i)*6):=⟨_,rfl⟩
 have hC1l:C1.length=c*6:=by
  rw [hC1];simp only [List.length_append,htl,List.length_take,List.length_drop];omega
 have hfin:C1.take (i*6)++news++C1.drop (i*6+6)=vs.take (i*6)++news++(vs.drop (i*6)).take ((n - i)*6)++vs.drop ((n+1)*6):=by
  have h1:C1.take (i*6)=vs.take (i*6):=by
   rw [hC1,List.append_assoc,List.take_append_of_le_length (by rw [List.length_take];omega),List.take_take,Nat.min_eq_left (by omega)]
  have h2:C1.drop (i*6+6)=(vs.drop (i*6)).take ((n - i)*6)++vs.drop ((n+1)*6):=by
   rw [hC1,List.append_assoc,List.drop_append_of_le_length (by rw [List.length_take];omega),List.drop_eq_nil_of_le (by rw [List.length_take];omega),List.nil_append,show (i+1)*6+(n - i)*6=(n+1)*6 by omega]
  rw [h1,h2,← List.append_assoc]
 rw [← hC1] at hcp1
 have hcp2:∀ (W:World),W.heap[b]? = some (.cells C1.toArray et (0,0))→W.heap[vb]? = some (.cells vx et' (0,0))→∀ ty dc,(Builtin.copy_ #[33,33] ty #[.slice (some ⟨b,i*6,none⟩) (n+1 - i) dc,.slice (some ⟨vb,0,none⟩) 1 vc]).run P W =
   .ok (goInt 1) (W.setRow b (C1.take (i*6)++news++C1.drop (i*6+6)).toArray):=fun W hWb hWv ty dc=>by
  have h:=Zt7 W 33 33 ty 83 6 b (i*6) (n+1 - i) dc ⟨vb,0,none⟩ 1 vc C1.toArray et news L.t33 hsz hWb
   (by rw [hnl];simp only [Nat.min_def];split<;>omega)
   (fun j v hj=>by rw [Addr.add_lit,hcell _ _ _ _ hWv,Nat.zero_add];exact hnv j v hj)
   (by rw [hnl];simp only [List.size_toArray];omega) h1v
  have hmin:Nat.min 1 (n+1 - i)=1:=by simp only [Nat.min_def];split<;>omega
  rw [hmin,hnl] at h
  exact h
 have hWb:(w.drew.setRow b C1.toArray).heap[b]? = some (.cells C1.toArray et (0,0)):=setRow_heap w.drew b _ C1.toArray et _ hwd
 have hWv:(w.drew.setRow b C1.toArray).heap[vb]? = some (.cells vx et' (0,0)):=by
  simp only [World.setRow,Array.getElem?_modify]
  rw [if_neg (fun e=>hvb e.symm)];exact hv
 rw [← hfin]
 clear e1 hC1 hfin hC1l htl hcell hwd hhead hheadb
 go_enter L.f155,ZxZ
 go_wp2_with (simp only [hov])
 go_region_law_o (refine step_copy_runI rfl _ _ 33 33 rfl _ _ (by simp [Act.eval,Act.put]) (by simp [Act.eval,Act.put]) (hcp1 _ _ _) ?_)
 go_wp2_with (at_builtin;refine wpList_copy_runI _ rfl _ _ 33 33 rfl _ _ rfl rfl (hcp2 _ hWb hWv _ _) ?_)
 go_ret
 refine ⟨rfl,?_⟩
 rw [setRow_setRow,List.append_assoc]
set_option maxHeartbeats 4000000 in
set_option maxRecDepth 100000 in
theorem ZJl (L:LayI P) (base:Option Addr) (n c vb vc:Nat) (w w':World) (u:Value)
  (hrun:∀ ty,(Builtin.append_ #[33,33] ty #[.slice base n c,.slice (some ⟨vb,0,none⟩) 1 vc]).run P w=.ok u w') :
  Calls P 155 #[.slice base n c,.int .i64 n,.slice (some ⟨vb,0,none⟩) 1 vc] w fun e w''=>e=.returned u∧w''=w':=by
 have t3:=L.t3;have a3:=L.a3;have z3:=L.z3;have t4:=L.t4;have a4:=L.a4;have z4:=L.z4;have z83:=L.z83;have t33:=L.t33;have a33:=L.a33;have z33:=L.z33
 have u3:=run_underlying L.t3;have u4:=run_underlying L.t4;have u33:=run_underlying L.t33
 have mixed:=L.mixed
 go_enter L.f155,ZxZ
 cases base with
 | none=>
  go_wp2_with (at_builtin;refine Lib.wpList_append_run _ rfl _ _ _ _ rfl _ _ rfl rfl _ _ (hrun _) ?_)
  all_goals (go_ret;exact ⟨rfl,rfl⟩)
 | some a=>
  obtain ⟨ab,ao,asp⟩:=a
  go_wp2_with (at_builtin;refine Lib.wpList_append_run _ rfl _ _ _ _ rfl _ _ rfl rfl _ _ (hrun _) ?_)
  all_goals (go_ret;exact ⟨rfl,rfl⟩)
set_option maxHeartbeats 4000000 in
set_option maxRecDepth 100000 in
theorem ZUi (L:LayI P) (b n c i vb vc:Nat) (vs news:List Value) (vx:Array Value) (et et':TypeId) (w:World) (hi:i<n) (hnc:n≤c) (hroom:c<n+1) (hbig:(n+1)*48≤140737488355328)
  (hw:w.heap[b]? = some (.cells vs.toArray et (0,0))) (hvl:vs.length=c*6) (hv:w.heap[vb]? = some (.cells vx et' (0,0))) (hnl:news.length=6) (hnv:∀ (j:Nat) (v:Value),news[j]? = some v→vx[j]? = some v)
  (h1c:∀ v∈vs.take (n*6),oneV v=true) (h1v:∀ v∈news,oneV v=true) :
  Calls P 155 #[.slice (some ⟨b,0,none⟩) n c,.int .i64 i,.slice (some ⟨vb,0,none⟩) 1 vc] w fun e w'=>
   ∃ (G:Nat) (rest:List Value),n+1≤G∧rest.length=(G - (n+1))*6∧e=.returned (.slice (some ⟨w.heap.size,0,none⟩) (n+1) G) ∧
    w'.heap=(w.heap.push (.cells (vs.take (i*6)++news++(vs.drop (i*6)).take ((n - i)*6)++rest).toArray 83))∧w'.os=w.os∧w'.tape=w.tape∧w'.output=w.output:=by
 have t3:=L.t3;have a3:=L.a3;have z3:=L.z3;have t4:=L.t4;have a4:=L.a4;have z4:=L.z4;have z83:=L.z83;have t33:=L.t33;have a33:=L.a33;have z33:=L.z33
 have u3:=run_underlying L.t3;have u4:=run_underlying L.t4;have u33:=run_underlying L.t33
 have mixed:=L.mixed
 obtain ⟨i0,z0,hi0,hz0,hsz0,hby0,hzc⟩:=L.i83
 have hz2:¬ ((i:Int)=(n:Int)):=by omega
 have hz3:(c:Int)<(n:Int)+1:=by omega
 have hsz:(P.info? 83).map (·.size)=some 6:=by rw [hi0];simp [hsz0]
 have hbw:b<w.heap.size:=(Array.getElem?_eq_some_iff.1 hw).1
 have hvw:vb<w.heap.size:=(Array.getElem?_eq_some_iff.1 hv).1
 have hkk:(n:Int)+1 - (i:Int)=((n+1 - i:Nat):Int):=by omega
 have hik:i+(n+1 - i)=n+1:=by omega
 have hold:(Builtin.firstCells i0.size i (.slice (some ⟨b,0,none⟩) i c)).run P w.drew=.ok (vs.take (i*6)).toArray w.drew:=by
  rw [hsz0]
  exact Go.Proofs.YtbdcblpjemmipaaGreat.Ex.run_firstCells (P:=P) (w:=w.drew) hw (vs.take (i*6)) (by rw [List.length_take];omega) (fun k hk=>by
   rw [List.length_take] at hk
   rw [Nat.zero_add,List.getElem?_toArray,List.getElem?_take_of_lt (by omega)])
 obtain ⟨G,hG⟩:∃ G,G=grownCap w (n+1) c 83:=⟨_,rfl⟩
 obtain ⟨ROW,hROW⟩:∃ ROW:List Value,ROW=vs.take (i*6)++(Builtin.zeroCells z0.cells (n+1 - i)).toList++(Builtin.zeroCells z0.cells (G - (n+1))).toList:=⟨_,rfl⟩
 have hrz:∀ ty,(Builtin.append_ #[33,3] ty #[.slice (some ⟨b,0,none⟩) i c,.int .i64 ((n:Int)+1 - (i:Int))]).run P w =
   .ok (.slice (some ⟨w.heap.size,0,none⟩) (n+1) G) (w.drew.alloc (.cells ROW.toArray 83)):=fun ty=>by
  have h:=Lib.run_append_grow_zeros w 33 3 ty 83 i0 _ .i64 .i64 L.t33 L.t3 hi0 hz0 (some ⟨b,0,none⟩) i c (vs.take (i*6)) hold (n+1 - i) (by omega) (by omega) (by omega) (by omega) (by rw [hby0];omega) (by rw [hby0,hik];exact growslice_fits hroom hbig)
  rw [hik] at h
  rw [hkk,h,hROW,hG]
  congr 4
  apply Array.ext'
  simp
 have hGn:n+1≤G:=by rw [hG];exact grownCap_ge w _ _ _
 have hzl:∀ k,(Builtin.zeroCells z0.cells k).toList.length=k*6:=fun k=>by rw [Array.length_toList,size_zeroCells,hzc]
 have htk:(vs.take (i*6)).length=i*6:=by rw [List.length_take];omega
 have hRl:ROW.length=G*6:=by rw [hROW];simp only [List.length_append,hzl,htk];omega
 have hRt:ROW.take (i*6)=vs.take (i*6):=by rw [hROW,List.append_assoc,List.take_append_of_le_length (by omega),List.take_take,Nat.min_self]
 have hG63:G≤9223372036854775807:=by
  have:=grownCap_le_maxLen w (n+1) c 83 (by unfold maxLen;omega)
  rw [← hG] at this
  unfold maxLen at this
  omega
 have hGi:¬ (G=i):=by omega
 have hGim:¬ (G=i+1):=by omega
 have hci:¬ (c=i):=by omega
 have hw1:IntKind.i64.wrap ((i:Int)+1)=(i:Int)+1:=by rw [IntKind.wrap_i64];omega
 have hb1:(0:Int)≤(i:Int)+1:=by omega
 have hb5:(i:Int)+1≤(n:Int)+1:=by omega
 have hin:i≤n:=by omega
 have htn:((i:Int)+1).toNat=i+1:=by omega
 have hb3:(i:Int)≤(n:Int):=by omega
 have hb6:(i:Int)≤(n:Int)+1:=by omega
 obtain ⟨R1,hR1⟩:∃ R1:List Value,R1=ROW.take (i*6)++news++ROW.drop (i*6+6):=⟨_,rfl⟩
 have hR1l:R1.length=G*6:=by rw [hR1];simp only [List.length_append,List.length_take,List.length_drop,hnl];omega
 have hcpA:∀ (W:World),W.heap[w.heap.size]? = some (.cells ROW.toArray 83 (0,0))→W.heap[vb]? = some (.cells vx et' (0,0))→∀ ty dc,(Builtin.copy_ #[33,33] ty #[.slice (some ⟨w.heap.size,i*6,none⟩) (n+1 - i) dc,.slice (some ⟨vb,0,none⟩) 1 vc]).run P W =
   .ok (goInt 1) (W.setRow w.heap.size R1.toArray):=fun W hWb hWv ty dc=>by
  have h:=Zt7 W 33 33 ty 83 6 w.heap.size (i*6) (n+1 - i) dc ⟨vb,0,none⟩ 1 vc ROW.toArray 83 news L.t33 hsz hWb
   (by rw [hnl];simp only [Nat.min_def];split<;>omega)
   (fun j v hj=>by rw [Addr.add_lit,ZnR hWv,Nat.zero_add];exact hnv j v hj)
   (by rw [hnl];simp only [List.size_toArray];omega) h1v
  have hmin:Nat.min 1 (n+1 - i)=1:=by simp only [Nat.min_def];split<;>omega
  rw [hmin,hnl] at h
  rw [hR1];exact h
 obtain ⟨R2,hR2⟩:∃ R2:List Value,R2=R1.take ((i+1)*6)++(vs.drop (i*6)).take ((n - i)*6)++R1.drop ((i+1)*6+(n - i)*6):=⟨_,rfl⟩
 have htl:((vs.drop (i*6)).take ((n - i)*6)).length=(n - i)*6:=by rw [List.length_take,List.length_drop];omega
 have hcpB:∀ (W:World),W.heap[w.heap.size]? = some (.cells R1.toArray 83 (0,0))→W.heap[b]? = some (.cells vs.toArray et (0,0))→∀ ty dc sc,(Builtin.copy_ #[33,33] ty #[.slice (some ⟨w.heap.size,(i+1)*6,none⟩) (n - i) dc,.slice (some ⟨b,i*6,none⟩) (n - i) sc]).run P W =
   .ok (goInt ((n - i:Nat):Int)) (W.setRow w.heap.size R2.toArray):=fun W hWb hWv ty dc sc=>by
  have h:=Zt7 W 33 33 ty 83 6 w.heap.size ((i+1)*6) (n - i) dc ⟨b,i*6,none⟩ (n - i) sc R1.toArray 83 ((vs.drop (i*6)).take ((n - i)*6)) L.t33 hsz hWb
   (by rw [htl];simp only [Nat.min_def];split<;>omega)
   (fun j v hj=>by
    rw [List.getElem?_take] at hj
    split at hj
    ·rw [Addr.add_lit,ZnR hWv,List.getElem?_toArray];rwa [List.getElem?_drop] at hj
    ·cases hj)
   (by rw [htl];simp only [List.size_toArray];omega) (fun v hv=>h1c v (by rw [Nat.sub_mul,← List.drop_take] at hv;exact List.mem_of_mem_drop hv))
  have hmin:Nat.min (n - i) (n - i)=n - i:=by simp only [Nat.min_def];split<;>omega
  rw [hmin,htl] at h
  rw [hR2];exact h
 have hfin:∃ rest:List Value,rest.length=(G - (n+1))*6∧R2=vs.take (i*6)++news++(vs.drop (i*6)).take ((n - i)*6)++rest:=by
  refine ⟨R1.drop ((i+1)*6+(n - i)*6),by rw [List.length_drop];omega,?_⟩
  rw [hR2]
  have:R1.take ((i+1)*6)=vs.take (i*6)++news:=by
   rw [hR1,hRt,List.take_append_of_le_length (by rw [List.length_append];omega),List.take_of_length_le (by rw [List.length_append];omega)]
  rw [this]
 have hA1:((w.alloc (.cells ROW.toArray 83)).drew).heap[w.heap.size]? = some (.cells ROW.toArray 83 (0,0)):=heap_alloc_new w _
 have hA2:((w.alloc (.cells ROW.toArray 83)).drew).heap[vb]? = some (.cells vx et' (0,0)):=(Zet w _ vb hvw).trans hv
 have hA3:((w.alloc (.cells ROW.toArray 83)).drew).heap[b]? = some (.cells vs.toArray et (0,0)):=(Zet w _ b hbw).trans hw
 have hB1:((((w.alloc (.cells ROW.toArray 83)).drew).setRow w.heap.size R1.toArray).drew).heap[w.heap.size]? = some (.cells R1.toArray 83 (0,0)):=setRow_heap _ w.heap.size _ R1.toArray 83 _ hA1
 have hB2:((((w.alloc (.cells ROW.toArray 83)).drew).setRow w.heap.size R1.toArray).drew).heap[b]? = some (.cells vs.toArray et (0,0)):=by
  show (World.setRow _ _ _).heap[b]? = _
  simp only [World.setRow,Array.getElem?_modify]
  rw [if_neg (by omega)];exact hA3
 have hend:((((w.alloc (.cells ROW.toArray 83)).drew).setRow w.heap.size R1.toArray).drew.setRow w.heap.size R2.toArray).heap=w.heap.push (.cells R2.toArray 83):=by
  apply Array.ext_getElem?
  intro k
  show (World.setRow _ _ _).heap[k]? = _
  simp only [World.setRow,Array.getElem?_modify,Array.getElem?_push]
  by_cases hk:w.heap.size=k
  ·subst hk
   rw [if_pos rfl,if_pos rfl]
   show Option.map _ ((World.setRow _ _ _).heap[w.heap.size]?)=_
   simp only [World.setRow,Array.getElem?_modify,if_true]
   rw [hA1];rfl
  ·rw [if_neg hk,if_neg (fun e=>hk e.symm)]
   show (World.setRow _ _ _).heap[k]? = _
   simp only [World.setRow,Array.getElem?_modify,if_neg hk]
   show (w.heap.push _)[k]? = _
   rw [Array.getElem?_push,if_neg (fun e=>hk e.symm)]
 have hcpA':=hcpA _ hA1 hA2
 have hcpB':=hcpB _ hB1 hB2
 clear hcpA hcpB hA1 hA2 hB1 hB2 hkk hik hold hROW hG hRl hRt hR1 hR1l hR2 htl hzl htk hA3
 go_enter L.f155,ZxZ
 go_wp2_with (first
  | (at_builtin;refine Lib.wpList_append_run _ rfl _ _ _ _ rfl _ _ rfl rfl _ _ (hrz _) ?_)
  | fail)
 go_region_law_o (refine step_copy_runI rfl _ _ 33 33 rfl (.slice (some ⟨w.heap.size,(i+1)*6,none⟩) (n - i) (G - (i+1))) (.slice (some ⟨b,i*6,none⟩) (n - i) (c - i)) (by simp [Act.eval,Act.put]) (by simp [Act.eval,Act.put]) (hcpB' 3 (G - (i+1)) (c - i)) ?_)
 go_wp2
 go_ret
 obtain ⟨rest,hrl,hfin⟩:=hfin
 exact ⟨G,rest,hGn,hrl,rfl,by rw [← hfin];exact hend,rfl,rfl,rfl⟩
end
section
open Go.Proofs
def ZRH {α:Type}:List α→Option α
 | [x]=>some x
 | _=>none
theorem ZRI {α:Type} {l:List α} {x:α} (h:ZRH l=some x):l=[x]:=by
 unfold ZRH at h
 split at h
 ·cases h;rfl
 ·cases h
def insP (args:List AV):Prog AV:=match args with
 | [.row id,.int .i64 i,.row id2]=>bif Nat.beq id id2 then .fail else .get id fun
  | .row e1 l1=>.opt (castL e1 tEn l1) fun l=>.get id2 fun
   | .row e2 l2=>.opt (castL e2 tEn l2) fun l'=>.opt (ZRH l') fun x=>
    .ite (decide (0≤i∧i≤(l.length:Nat)∧(l.length+2)*48≤lim)) (.del id (.new (.row tEn (l.take i.toNat++x::l.drop i.toNat)) fun id'=>.ret (.row id'))) .fail
   | .box _=>.fail
  | .box _=>.fail
 | _=>.fail
variable {P:Program}
theorem ZNy {S:Stb} {l:List (D tEn)} {x:D tEn} {vs news rest:List Value} (hr:Qt S tEn vs.toArray 0 l) (hs:l.length*6≤vs.length) (hn:news.length=6) (h2:Qt S tEn news.toArray 0 [x]) {i:Nat} (hi:i≤l.length) :
  Qt S tEn (vs.take (i*6)++news++(vs.drop (i*6)).take ((l.length - i)*6)++rest).toArray 0 (l.take i++x::l.drop i):=by
 have h6:(eTy tEn).size=6:=rfl
 have ho:Qt S tEn (vs.take (l.length*6)).toArray 0 l:=fun q hq=>by
  obtain ⟨cs,k1,k2,k3⟩:=hr q hq
  refine ⟨cs,k1,fun j hj=>?_,k3⟩
  have:=k2 j hj
  rw [List.getElem?_toArray] at this ⊢
  rw [h6] at *
  rw [← this,List.getElem?_take_of_lt (by omega)]
 have hol:(vs.take (l.length*6)).length=l.length*(eTy tEn).size:=by rw [List.length_take,h6];omega
 have a1:=Qt.take ho hol i hi
 have a2:=Qt.drop ho hol i hi
 rw [h6,List.take_take,Nat.min_eq_left (by omega)] at a1
 rw [h6,List.drop_take,← Nat.sub_mul] at a2
 have b1:=Qt.append a1 (by rw [List.length_take,List.length_take,h6];omega) h2 (by rw [hn];rfl) []
 rw [List.append_nil] at b1
 have b2:=Qt.append b1 (by rw [List.length_append,List.length_append,List.length_take,List.length_take,h6,hn,List.length_singleton];omega) a2
  (by rw [List.length_take,List.length_drop,List.length_drop,h6];omega) rest
 rw [List.append_assoc (l.take i)] at b2
 exact b2
theorem ZSK (L:LayI P) (hf:P.funcs[155]? = some Tryz.f155) (hname:(Tryz.f155.name == "runtime.NumGoroutine")=false):Zg P 155 insP:=by
 intro tr args h ft v h' ft' vals hdr S w ok ev hr hm hv hids hO
 have hbody:∃ c,Tryz.f155.body=some c:=⟨_,rfl⟩
 obtain ⟨c0,hb0⟩:=hbody
 refine ⟨fun args w=>MuLone.run_callFunc_enter hf hname hb0 args w,?_⟩
 unfold insP at ev
 split at ev
 case h_2=>exact (Zh ev).elim
 rename_i id i id2
 rcases ZN ev with ⟨_,ev⟩ | ⟨hne,ev⟩
 ·exact (Zh ev).elim
 obtain ⟨b1,hb1,ev⟩:=Qa ev
 split at ev
 case h_2=>exact (Zh ev).elim
 rename_i e1 l1
 obtain ⟨l,h2,ev⟩:=ZB ev
 obtain ⟨he,hl⟩:=JN h2
 subst he
 simp only at hl
 subst hl
 obtain ⟨b2,hb2,ev⟩:=Qa ev
 split at ev
 case h_2=>exact (Zh ev).elim
 rename_i e2 l2
 obtain ⟨l',h3,ev⟩:=ZB ev
 obtain ⟨he,hl⟩:=JN h3
 subst he
 simp only at hl
 subst hl
 obtain ⟨x,h4,ev⟩:=ZB ev
 obtain rfl:=ZRI h4
 rcases Jp ev with ⟨hc,ev⟩ | ⟨_,ev⟩
 case inr=>exact (Zh ev).elim
 obtain ⟨hi0,hi1,hlim⟩:=of_decide_eq_true hc
 obtain ⟨_,ev⟩:=ZkD ev
 have ev:=Zjk ev
 cases Zz ev
 have hidne:id≠id2:=fun e=>by rw [e,Zoj] at hne;cases hne
 obtain ⟨k,rfl⟩:∃ k:Nat,i=(k:Int):=⟨i.toNat,by omega⟩
 rw [tN0] at *
 have hk:k≤l1.length:=by omega
 have hlim48:(l1.length+2)*48≤lim:=hlim
 have hbig:(l1.length+1)*48≤140737488355328:=by unfold lim at hlim48;omega
 cases hv with | cons _ _ _ _ hx hvn=>
 cases hvn with | cons _ _ _ _ hx2 hvn=>
 cases hvn with | cons _ _ _ _ hx3 hvn=>
 cases hvn
 cases hx2
 cases hx with | row _ ao len cap hh=>
 cases hx3 with | row _ ao2 len2 cap2 hh2=>
 have br2:=hr.blk id2 _ hb2
 cases br2 with
 | row _ _ vb capv vx etv hhv hcv hwv hlv hsv hrv=>
 rw [hh2] at hhv
 cases hhv
 obtain ⟨news,n1,n2,n3⟩:=hrv.news
 have n1:news.length=6:=n1
 have hnv:∀ (j:Nat) (u:Value),news[j]? = some u→vx[j]? = some u:=fun j u hj=>by
  have:=n2 j (List.getElem?_eq_some_iff.1 hj).1
  rw [Nat.zero_add] at this
  rw [this];exact hj
 have n4:∀ u∈news,oneV u=true:=n3.ones (by rw [n1];rfl)
 have hblk2:blkOf (hdr id2)=some vb:=by
  rw [hh2]
  cases cap2 with
  | zero=>omega
  | succ n=>rfl
 have pdel:=ZjG (tr:=tr) hr hm id _ hb1 S (fun _ _ k=>k) (fun _ _ k=>.inl k)
 have mdel:Kd ok (delB h.blks id):=pdel.ment.mono fun n k=>Zfo k
 obtain ⟨inf,z,q1,q4,q2,q3,q5⟩:=L.i83
 have fc:∀ w1:World,w1.heap=w.heap→(Builtin.firstCells inf.size 1 (.slice (some ⟨vb,0,none⟩) 1 cap2)).run P w1=.ok news.toArray w1:=fun w1 hw1=>by
  rw [q2];exact Go.Proofs.YtbdcblpjemmipaaGreat.Ex.run_firstCells (w:=w1) (by rw [hw1];exact hwv) news n1 n2
 have fresh:∀ (w':World) (G:Nat) (cs:List Value),l1.length+1≤G→cs.length=G*6→w'.heap=w.heap.push (.cells cs.toArray 83)→w'.os=w.os→w'.tape=w.tape→w'.output=w.output→Qt S tEn cs.toArray 0 (l1.take k++x::l1.drop k)→
   ∃ u hdr' S',Ending.returned (.slice (some ⟨w.heap.size,0,none⟩) (l1.length+1) G)=.returned u∧Post tr ok hdr S h w hdr' S' ⟨(h.c,.row tEn (l1.take k++x::l1.drop k))::delB h.blks id,h.c+1⟩ w'∧VRep hdr' S' (.row h.c) u∧∀ n∈(AV.row h.c).ids,okn ok h.c (h.c+1) n:=by
  intro w' G cs hG hcl hheap hos htape hout hre
  have hll:(l1.take k++x::l1.drop k).length=l1.length+1:=by simp only [List.length_append,List.length_take,List.length_cons,List.length_drop];omega
  have pnew:=post_new' (tr:=tr) pdel.real mdel hO (.row tEn (l1.take k++x::l1.drop k)) (fun n hn=>by cases hn) w' hos htape hout (by rw [hheap,Array.size_push];omega)
   (fun n hn=>by rw [hheap,Array.getElem?_push,if_neg (by omega)]) (.slice (some ⟨w.heap.size,0,none⟩) (l1.length+1) G) (by cases G with | zero=>omega | succ n=>exact .inr rfl)
   (fun hdr' _ g2=>.row tEn _ w.heap.size G cs.toArray 83 (by rw [hll];exact g2) (by omega) (by rw [hheap,Array.getElem?_push,if_pos rfl]) (by rw [hll];exact hG) (by simpa using (show cs.length=G*(eTy tEn).size from hcl)) hre)
  refine ⟨_,_,_,rfl,pdel.trans (pnew.weaken fun _ k=>.inl k),.row _ _ _ _ (J0 _ _ _),fun n hn=>?_⟩
  simp [AV.ids] at hn;subst hn;exact .inr ⟨Nat.le_refl _,Nat.lt_succ_self _⟩
 have br:=hr.blk id _ hb1
 cases br with
 | rowNil _ a0 hh'=>
  rw [hh] at hh'
  cases hh'
  obtain rfl:k=0:=by simp at hk;exact hk
  have hfo:(Builtin.firstCells inf.size 0 (.slice ao 0 0)).run P w.drew=.ok ([]:List Value).toArray w.drew:=by
   cases ao<;>simp [Builtin.firstCells,loadCells,loadCellsFrom]
  have hrun:∀ ty,(Builtin.append_ #[33,33] ty #[.slice ao 0 0,.slice (some ⟨vb,0,none⟩) 1 cap2]).run P w=_:=fun ty=>(Zrr (ty:=ty) L.t33 q1 q4 hfo (fc w.drew rfl) (fc w rfl) (by omega) (by rw [q3];simpa using hlim48)).2 (by omega)
  refine (ZJl L ao 0 0 vb cap2 w _ _ hrun).mono ?_
  rintro en w' ⟨rfl,rfl⟩
  have hge:=grownCap_ge w (0+1) 0 83
  refine fresh _ (grownCap w (0+1) 0 83) ([]++news++(Builtin.zeroCells z.cells (grownCap w (0+1) 0 83 - (0+1))).toList) hge ?_ ?_ rfl rfl rfl ?_
  ·have hzc:=size_zeroCells z.cells (grownCap w (0+1) 0 83 - (0+1))
   simp only [List.nil_append,List.length_append,n1,Array.length_toList,hzc,q5];omega
  ·show (w.heap.push _)=_
   congr 2
   apply Array.ext';simp
  ·exact Qt.append (S:=S) (l1:=([]:List (D tEn))) (c1:=[]) (fun i hi=>absurd hi (by simp)) (by simp) n3 (by rw [n1];rfl) _
 | row _ _ b cap' vsA et hh' hcap hw hle hs hre=>
  rw [hh] at hh'
  cases hh'
  have hs:vsA.size=cap*6:=hs
  have hblk:blkOf (hdr id)=some b:=by
   rw [hh]
   cases cap with
   | zero=>omega
   | succ n=>rfl
  have hvb:vb≠b:=fun e=>hr.sep id id2 _ _ b hidne hb1 hb2 hblk (by rw [hblk2,e])
  have hwL:w.heap[b]? = some (.cells vsA.toList.toArray et (0,0)):=by simpa using hw
  have hvl:vsA.toList.length=cap*6:=by simpa using hs
  have hreL:Qt S tEn vsA.toList.toArray 0 l1:=by simpa using hre
  have inplace:∀ (w':World) (rest:List Value),l1.length+1≤cap→w'.heap[b]? = some (.cells (vsA.toList.take (k*6)++news++(vsA.toList.drop (k*6)).take ((l1.length - k)*6)++rest).toArray et (0,0))→rest.length=(cap - (l1.length+1))*6→
    w'.os=w.os→w'.tape=w.tape→w'.output=w.output→w'.heap.size=w.heap.size→(∀ n,n≠b→w'.heap[n]? = w.heap[n]?)→
   ∃ u hdr' S',Ending.returned (.slice (some ⟨b,0,none⟩) (l1.length+1) cap)=.returned u∧Post tr ok hdr S h w hdr' S' ⟨(h.c,.row tEn (l1.take k++x::l1.drop k))::delB h.blks id,h.c+1⟩ w'∧VRep hdr' S' (.row h.c) u∧∀ n∈(AV.row h.c).ids,okn ok h.c (h.c+1) n:=by
   intro w' rest hroom hheap hrl hos htape hout hsz hoth
   have hll:(l1.take k++x::l1.drop k).length=l1.length+1:=by simp only [List.length_append,List.length_take,List.length_cons,List.length_drop];omega
   have hre2:=ZNy (rest:=rest) hreL (by omega) n1 n3 hk
   refine ⟨_,_,_,rfl,Zvr hr hm hO id (.row tEn (l1.take k++x::l1.drop k)) _ hb1 (fun n hn=>by cases hn) w' b (.slice (some ⟨b,0,none⟩) (l1.length+1) cap) hblk
    (by cases cap with | zero=>omega | succ n=>rfl) hos htape hout hsz hoth
    (fun hdr' _ g2=>.row tEn _ b cap _ et (by rw [hll];exact g2) hcap hheap (by rw [hll];exact hroom) (by
     show _=cap*6
     simp only [List.size_toArray,List.length_append,List.length_take,List.length_drop,n1,hrl];omega) hre2),.row _ _ _ _ (J0 _ _ _),fun n hn=>?_⟩
   simp [AV.ids] at hn;subst hn;exact .inr ⟨Nat.le_refl _,Nat.lt_succ_self _⟩
  obtain ⟨olds,o1,o2,o3⟩:=hre.news
  have o1:olds.length=l1.length*6:=o1
  have holds:vsA.toList.take (l1.length*6)=olds:=by
   refine List.ext_getElem? fun q=>?_
   by_cases hq:q<l1.length*6
   ·rw [List.getElem?_take_of_lt hq,Array.getElem?_toList]
    have:=o2 q (by omega)
    rwa [Nat.zero_add] at this
   ·rw [List.getElem?_eq_none (by rw [List.length_take];omega),List.getElem?_eq_none (by omega)]
  have hones:∀ u∈vsA.toList.take (l1.length*6),oneV u=true:=by rw [holds];exact o3.ones o1
  by_cases hkn:k=l1.length
  ·subst hkn
   have hfo:(Builtin.firstCells inf.size l1.length (.slice (some ⟨b,0,none⟩) l1.length cap)).run P w.drew=.ok olds.toArray w.drew:=by
    rw [q2];exact Go.Proofs.YtbdcblpjemmipaaGreat.Ex.run_firstCells (w:=w.drew) hw olds o1 o2
   have hra:=fun ty=>Zrr (ty:=ty) L.t33 q1 q4 hfo (fc w.drew rfl) (fc w rfl) (by omega) (by rw [q3];exact hlim48)
   by_cases hroom:l1.length+1≤cap
   ·obtain ⟨w',g1,a1,a2,a3,a4,a5,a6⟩:=ZbS P b et news w vsA.toList (l1.length*6) 0 hwL (by omega) n4
    simp only [Nat.add_zero] at a6
    have hrun:∀ ty,(Builtin.append_ #[33,33] ty #[.slice (some ⟨b,0,none⟩) l1.length cap,.slice (some ⟨vb,0,none⟩) 1 cap2]).run P w=.ok (.slice (some ⟨b,0,none⟩) (l1.length+1) cap) w':=fun ty=>by
     rw [(hra ty).1 hroom,q2]
     simp only [stAt,ZoS,Nat.zero_add,g1,Result.andThen_ok]
    refine (ZJl L _ _ _ vb cap2 w _ _ hrun).mono ?_
    rintro en w'' ⟨rfl,rfl⟩
    refine inplace _ (vsA.toList.drop (l1.length*6+news.length)) hroom ?_ (by rw [List.length_drop,n1];omega) a1 a2 a3 a4 a5
    rw [a6,Nat.sub_self,Nat.zero_mul,List.take_zero,List.append_nil]
   ·refine (ZJl L _ _ _ vb cap2 w _ _ (fun ty=>(hra ty).2 (by omega))).mono ?_
    rintro en w' ⟨rfl,rfl⟩
    have hge:=grownCap_ge w (l1.length+1) cap 83
    refine fresh _ (grownCap w (l1.length+1) cap 83) (olds++news++(Builtin.zeroCells z.cells (grownCap w (l1.length+1) cap 83 - (l1.length+1))).toList) hge ?_ ?_ rfl rfl rfl ?_
    ·have hzc:=size_zeroCells z.cells (grownCap w (l1.length+1) cap 83 - (l1.length+1))
     simp only [List.length_append,n1,o1,Array.length_toList,hzc,q5];omega
    ·show (w.heap.push _)=_
     congr 2
     apply Array.ext';simp
    ·rw [List.take_length,List.drop_length]
     exact Qt.append o3 o1 n3 (by rw [n1];rfl) _
  ·by_cases hroom:l1.length+1≤cap
   ·refine (ZSJ L b l1.length cap k vb cap2 vsA.toList news vx et etv w (by omega) hroom hbig hvb hwL hvl hwv n1 hnv hones n4).mono ?_
    rintro en w' ⟨rfl,rfl⟩
    refine inplace _ (vsA.toList.drop ((l1.length+1)*6)) hroom ?_ (by rw [List.length_drop];omega) rfl rfl rfl ?_ ?_
    ·exact setRow_heap w.drew b _ _ et _ hw
    ·simp [World.setRow]
    ·intro n hn
     show (World.setRow _ _ _).heap[n]? = _
     simp only [World.setRow,Array.getElem?_modify]
     rw [if_neg (fun e=>hn e.symm)];rfl
   ·refine (ZUi L b l1.length cap k vb cap2 vsA.toList news vx et etv w (by omega) hle (by omega) hbig hwL hvl hwv n1 hnv hones n4).mono ?_
    rintro en w' ⟨G,rest,hG,hrl,rfl,hheap,hos,htape,hout⟩
    exact fresh w' G _ hG (by
     simp only [List.length_append,List.length_take,List.length_drop,n1,hrl];omega) hheap hos htape hout (ZNy hreL (by omega) n1 n3 hk)
end
theorem tyOk (t:TypeId) (i:TInfo) (h:tiL tab t=some i):TyOk Tryz.prog tab t i:=Zos ZsZ t i h
theorem layI:LayI Tryz.prog:={
 mixed:=mixed
 f155:=Tryz.func155
 f189:=Tryz.func189
 t3:=by kernel_rfl
 a3:=fun w=>(tyOk 3 _ rfl).isAgg w
 z3:=fun w=>(tyOk 3 _ rfl).sizeOf w
 t4:=by kernel_rfl
 a4:=fun w=>(tyOk 4 _ rfl).isAgg w
 z4:=fun w=>(tyOk 4 _ rfl).sizeOf w
 z83:=fun w=>(tyOk 83 _ rfl).sizeOf w
 t33:=by kernel_rfl
 a33:=fun w=>(tyOk 33 _ rfl).isAgg w
 z33:=fun w=>(tyOk 33 _ rfl).sizeOf w
 i83:=by
  obtain ⟨i,z,h1,h2,h3,h4,h5⟩:=(tyOk 83 _ rfl).info
  refine ⟨i,z,h1,h4,h2,h3,?_⟩
  have:=congrArg List.length h5
  rw [ZcQ] at this
  exact (by simpa using this:z.cells.size=_) }
def Zd0:List AV→Prog AV:=insP
theorem Zka:Zg Tryz.prog 155 Zd0:=ZSK layI Tryz.func155 (by kernel_rfl)
def ZPf:List Sh:=[.dat (.sl tEn),.dat (.sl tEn)]
def Zt1:Nat→List Nat:=fun c=>bif c.beq 0 then [5,10,11,12] else [5]
def ZIr:List Con:=[⟨106,Zfj,ZkI⟩,⟨153,JR,KL⟩,⟨154,ZrX,ZDN⟩,⟨155,Zd0,Zka⟩]
def ZhQ:StS:=⟨[(5,.row 0),(10,.sl tEn),(11,.int .i64),(12,.int .i64)],[(0,.row tEn)],1⟩
def Zbn:StS:=⟨[(5,.row 0)],[(0,.row tEn)],1⟩
abbrev Zat:=((List En)×Int×Int×(List En))
def ZEL:StD ZhQ→Zat:=fun ((_,a,b,c,_),(d,_))=>(a,b,c,d)
def ZFl:Zat→StD ZhQ:=fun (a,b,c,d)=>(((),a,b,c,()),(d,()))
abbrev Kw:=(List En)
def ZBk (d:StD Zbn):Kw:=(d.2.1)
def Zi2 (x:Kw):StD Zbn:=(((),()),(x,()))
def ZbZ (s10:List En) (s11 s12:Int) (b0:List En):Option (((List En)×Int×Int×(List En))⊕(List En)):=bif decide (s12<s11) then bif decide (0≤s12) then Za s10[s12.toNat]? none fun d6=>bif decide (d6.2.2.2.2.1>d6.2.2.2.2.2) then some (.inl (s10,s11,IntKind.i64.wrap (s12+1),b0)) else Za (Zey (b0,d6,())) none fun d7=>bif !d7.2.1 then bif decide (0≤d7.1∧d7.1≤(b0.length:Int)∧(b0.length+2)*48≤lim) then some (.inl (s10,s11,IntKind.i64.wrap (s12+1),List.take (Int.toNat d7.1) b0++d6::List.drop (Int.toNat d7.1) b0)) else none else bif decide (0≤d7.1) then Za b0[Int.toNat d7.1]? none fun d8=>Za b0[Int.toNat d7.1]? none fun d9=>bif decide (d9.2.2.2.2.1>d9.2.2.2.2.2) then bif decide (d6.2.2.2.2.1>d6.2.2.2.2.2) then bif decide (0≤d7.1) then Za b0[Int.toNat d7.1]? none fun d10=>Za b0[Int.toNat d7.1]? none fun d11=>some (.inl (s10,s11,IntKind.i64.wrap (s12+1),b0.set (Int.toNat d7.1) (d11.1,d11.2.1,d11.2.2.1,d11.2.2.2.1,1,0))) else none else bif decide (0≤d7.1) then Za b0[Int.toNat d7.1]? none fun d10=>Za b0[Int.toNat d7.1]? none fun d11=>some (.inl (s10,s11,IntKind.i64.wrap (s12+1),b0.set (Int.toNat d7.1) (d11.1,d11.2.1,d11.2.2.1,d11.2.2.2.1,d6.2.2.2.2))) else none else bif decide (d6.2.2.2.2.1>d6.2.2.2.2.2) then bif decide (0≤d7.1) then Za b0[Int.toNat d7.1]? none fun d10=>Za b0[Int.toNat d7.1]? none fun d11=>some (.inl (s10,s11,IntKind.i64.wrap (s12+1),b0.set (Int.toNat d7.1) (d11.1,d11.2.1,d11.2.2.1,d11.2.2.2.1,d9.2.2.2.2))) else none else bif decide (d9.2.2.2.2.1>d9.2.2.2.2.2) then bif decide (0≤d7.1) then Za b0[Int.toNat d7.1]? none fun d10=>Za b0[Int.toNat d7.1]? none fun d11=>some
 (.inl (s10,s11,IntKind.i64.wrap (s12+1),b0.set (Int.toNat d7.1) (d11.1,d11.2.1,d11.2.2.1,d11.2.2.2.1,d6.2.2.2.2))) else none else bif decide (0≤d7.1) then Za b0[Int.toNat d7.1]? none fun d10=>Za b0[Int.toNat d7.1]? none fun d11=>some (.inl (s10,s11,IntKind.i64.wrap (s12+1),b0.set (Int.toNat d7.1) (d11.1,d11.2.1,d11.2.2.1,d11.2.2.2.1,if d6.2.2.2.2.1<d9.2.2.2.2.1 then d6.2.2.2.2.1 else d9.2.2.2.2.1,if d6.2.2.2.2.2>d9.2.2.2.2.2 then d6.2.2.2.2.2 else d9.2.2.2.2.2))) else none else none else none else some (.inr b0)
def Zq5:Zat→Option (Zat⊕Kw):=fun (a,b,c,d)=>ZbZ a b c d
def Zhg (x:Zat):Option Kw:=Zn Zq5 Zr x
def ZwU:Nat→Tm→Prog (Nat×Tm):=(varP 0 (fun T h=>(rdS ZhQ T h).map ZEL) Zhg (altE 2 Zbn Zi2) (fun _ _=>.fail))
def ZHT:Lpc:=⟨81,0,21,(fun base T=>.norm base (Zt1 0) T (ZwU base)),by kernel_rfl,by kernel_rfl,(loopU ZIr [] 40 1048576 8 (keep:=Zt1) (q:=ZwU) (by kernel_rfl) (ZA (s:=ZhQ) (un:=ZFl) (by rfl) (fun _=>rfl) (Zp (s:=Zbn) (un:=Zi2) (flat:=ZBk) (by rfl) (fun _=>rfl)) (step:=Zq5) (fun _=>by kernel_rfl) (fun _ _ e=>⟨_,e⟩) (Zo 2 Zbn Zi2) (ZI.fail _ _)))⟩
def ZtR (a0 a1:List En):Option (List En):=bif decide (((List.length (α:=I) [])+a0.length+1)*48≤lim) then Za (Zhg (a1,(a1.length:Int),0,[]++a0)) none fun d4=>some d4 else none
def Zlc (x:((List En)×((List En)×Unit))):Option (List En):=ZtR x.1 x.2.1
def Zuv:=conR false ZPf tEn Zlc
theorem ZFV:Zg Tryz.prog 81 Zuv:=Zhk (calU ZIr [ZHT] 40 1048576 8 81) false (by rfl) (fun x r e=>(Zn2 _ _ _ _ _ _ _).trans ((show _=Zlc x by kernel_rfl).trans e)) (.inr (by rfl))
def ZbN  (s10:(List En)) (i:Nat) (b0:(List En)) (d:En):Option ((List En)⊕Kw):=
 bif decide (d.2.2.2.2.1>d.2.2.2.2.2) then
  some (.inl (b0))
 else Za (Zey (b0,d,())) (none) fun d7=>
  bif !d7.2.1 then
  bif decide (0≤d7.1∧d7.1≤(↑b0.length:Int)∧(b0.length+2)*48≤lim) then
  some (.inl (List.take (Int.toNat d7.1) b0++d::List.drop (Int.toNat d7.1) b0))
 else none
 else bif decide (0≤d7.1) then
  Za b0[Int.toNat d7.1]? (none) fun d8=>
  Za b0[Int.toNat d7.1]? (none) fun d9=>
  bif decide (d9.2.2.2.2.1>d9.2.2.2.2.2) then
  bif decide (d.2.2.2.2.1>d.2.2.2.2.2) then
  bif decide (0≤d7.1) then
  Za b0[Int.toNat d7.1]? (none) fun d10=>
  Za b0[Int.toNat d7.1]? (none) fun d11=>
  some (.inl (b0.set (Int.toNat d7.1) (d11.1,d11.2.1,d11.2.2.1,d11.2.2.2.1,1,0)))
 else none
 else bif decide (0≤d7.1) then
  Za b0[Int.toNat d7.1]? (none) fun d10=>
  Za b0[Int.toNat d7.1]? (none) fun d11=>
  some (.inl (b0.set (Int.toNat d7.1) (d11.1,d11.2.1,d11.2.2.1,d11.2.2.2.1,d.2.2.2.2)))
 else none
 else bif decide (d.2.2.2.2.1>d.2.2.2.2.2) then
  bif decide (0≤d7.1) then
  Za b0[Int.toNat d7.1]? (none) fun d10=>
  Za b0[Int.toNat d7.1]? (none) fun d11=>
  some (.inl (b0.set (Int.toNat d7.1) (d11.1,d11.2.1,d11.2.2.1,d11.2.2.2.1,d9.2.2.2.2)))
 else none
 else bif decide (d9.2.2.2.2.1>d9.2.2.2.2.2) then
  bif decide (0≤d7.1) then
  Za b0[Int.toNat d7.1]? (none) fun d10=>
  Za b0[Int.toNat d7.1]? (none) fun d11=>
  some (.inl (b0.set (Int.toNat d7.1) (d11.1,d11.2.1,d11.2.2.1,d11.2.2.2.1,d.2.2.2.2)))
 else none
 else bif decide (0≤d7.1) then
  Za b0[Int.toNat d7.1]? (none) fun d10=>
  Za b0[Int.toNat d7.1]? (none) fun d11=>
  some (.inl (b0.set (Int.toNat d7.1) (d11.1,d11.2.1,d11.2.2.1,d11.2.2.2.1,if d.2.2.2.2.1<d9.2.2.2.2.1 then d.2.2.2.2.1 else d9.2.2.2.2.1,if d.2.2.2.2.2>d9.2.2.2.2.2 then d.2.2.2.2.2 else d9.2.2.2.2.2)))
 else none
 else none
def Zqo  (s10:(List En)) (b0:(List En)):Option Kw:=
 some b0
abbrev ZE8  (s10:(List En)) (i:Nat) (s:(List En)):Zat:=(s10,(s10.length:Int),(i:Int),s)
def Zku  (s10:(List En)) (s:(List En)):Option Kw:=Zq (fun i s d=>ZbN  s10 i s d) (fun s=>Zqo  s10 s) 0 s10 s
theorem ZE2  (s10:(List En)) (s:(List En)) (hl:s10.length<9223372036854775807):Zhg (s10,(s10.length:Int),0,s)=Zku  s10 s:=by
 unfold Zhg Zku
 refine Zs s10 (ZE8  s10) _ _ ?_ ?_ s (by unfold Zr;omega)
 ·intro i s d hi hd
  have e1:decide ((i:Int)<(s10.length:Int))=true:=dT0 (by omega)
  have e2:decide (0≤(i:Int))=true:=dT0 (by omega)
  have e3:Int.toNat (i:Int)=i:=tN0 i
  have e4:=Zu hi (Nat.le_of_lt hl)
  show ZbZ (s10) ((s10.length:Int)) ((i:Int)) (s)=upd _ (ZbN  s10 i s d)
  unfold ZbZ ZbN
  simp only [e1,e2,e3,e4,hd,cond_true,cond_false,Zc,ZD,ZG,ZE,ZK,ZL,ZF]
 ·intro s
  have e1:decide ((s10.length:Int)<(s10.length:Int))=false:=dF0 (by omega)
  show ZbZ (s10) ((s10.length:Int)) ((s10.length:Int)) (s)=_
  unfold ZbZ Zqo
  rw [e1]
  rfl
def ZLp:List Sh:=[.dat tI,.dat tI,.dat (.sl (.int .i64))]
def Zpa:Nat→List Nat:=fun c=>bif c.beq 0 then [3,6,7,8,9,24,25,26] else [3,6,7,8,9]
def ZDU:List Con:=[⟨153,JR,KL⟩,⟨111,YQ,VH⟩,⟨69,ZrR,ZDL⟩]
def ZdG:StS:=⟨[(3,.ptr 0 0),(6,.ptr 1 0),(7,.ptr 2 0),(8,.int .i64),(9,.int .i64),(24,.sl (.int .i64)),(25,.int .i64),(26,.int .i64)],[(0,.box [.int .i64,.int .i64]),(1,.box [.int .i64,.int .i64]),(2,.box [.int .i64,.int .i64])],3⟩
def HW:StS:=⟨[(3,.ptr 0 0),(6,.ptr 1 0),(7,.ptr 2 0),(8,.int .i64),(9,.int .i64)],[(0,.box [.int .i64,.int .i64]),(1,.box [.int .i64,.int .i64]),(2,.box [.int .i64,.int .i64])],3⟩
abbrev Yt:=(Int×Int×(List Int)×Int×Int×Int×Int×Int×Int×Int×Int)
def Zx7:StD ZdG→Yt:=fun ((_,_,_,a,b,c,d,e,_),((f,g,_),(h,i,_),(j,k,_),_))=>(a,b,c,d,e,f,g,h,i,j,k)
def ZzP:Yt→StD ZdG:=fun (a,b,c,d,e,f,g,h,i,j,k)=>(((),(),(),a,b,c,d,e,()),((f,g,()),(h,i,()),(j,k,()),()))
abbrev Q3:=(Int×Int×Int×Int×Int×Int×Int×Int)
def ZuE:StD HW→Q3:=fun ((_,_,_,a,b,_),((c,d,_),(e,f,_),(g,h,_),_))=>(a,b,c,d,e,f,g,h)
def Zfz:Q3→StD HW:=fun (a,b,c,d,e,f,g,h)=>(((),(),(),a,b,()),((c,d,()),(e,f,()),(g,h,()),()))
def VK (s8 s9:Int) (s24:List Int) (s25 s26 b0 b0_1 b1 b1_1 b2 b2_1:Int):Option ((Int×Int×(List Int)×Int×Int×Int×Int×Int×Int×Int×Int)⊕(Int×Int×Int×Int×Int×Int×Int×Int)):=bif decide (s26<s25) then bif decide (0≤s26) then Za s24[s26.toNat]? none fun d13=>Za (Zex ([d13],())) none fun d14=>bif !d14 then some (.inl (s8,s9,s24,s25,IntKind.i64.wrap (s26+1),b0,b0_1,b1,b1_1,b2,b2_1)) else bif decide (d13≤b2) then bif decide (d13≥b2_1) then some (.inl (if d13>s8 then d13 else s8,if d13<s9 then d13 else s9,s24,s25,IntKind.i64.wrap (s26+1),b0,b0_1,b1,b1_1,b2,b2_1)) else some (.inl (if d13>s8 then d13 else s8,s9,s24,s25,IntKind.i64.wrap (s26+1),b0,b0_1,b1,b1_1,b2,b2_1)) else bif decide (d13≥b2_1) then some (.inl (s8,if d13<s9 then d13 else s9,s24,s25,IntKind.i64.wrap (s26+1),b0,b0_1,b1,b1_1,b2,b2_1)) else some (.inl (s8,s9,s24,s25,IntKind.i64.wrap (s26+1),b0,b0_1,b1,b1_1,b2,b2_1)) else none else some (.inr (s8,s9,b0,b0_1,b1,b1_1,b2,b2_1))
def ZmT:Yt→Option (Yt⊕Q3):=fun (a,b,c,d,e,f,g,h,i,j,k)=>VK a b c d e f g h i j k
def WJ (x:Yt):Option Q3:=Zn ZmT Zr x
def ZqI:Nat→Tm→Prog (Nat×Tm):=(varP 0 (fun T h=>(rdS ZdG T h).map Zx7) WJ (altE 3 HW Zfz) (fun _ _=>.fail))
def ZC9:Lpc:=⟨109,1,64,(fun base T=>.norm base (Zpa 0) T (ZqI base)),by kernel_rfl,by kernel_rfl,(loopU ZDU [] 40 1048576 8 (keep:=Zpa) (q:=ZqI) (by kernel_rfl) (ZA (s:=ZdG) (un:=ZzP) (by rfl) (fun _=>rfl) (Zp (s:=HW) (un:=Zfz) (flat:=ZuE) (by rfl) (fun _=>rfl)) (step:=ZmT) (fun _=>by kernel_rfl) (fun _ _ e=>⟨_,e⟩) (Zo 3 HW Zfz) (ZI.fail _ _)))⟩
def Zvc (a0 a1:I) (a2:List Int):Option I:=bif decide (a1.1>a1.2) then some (a0.1,a0.2) else bif decide (a0.1>a0.2) then some (a1.1,a1.2) else Za (ZM ([a0,a1],())) none fun d5=>Za (WJ (-2147483648,2147483647,a2,(a2.length:Int),0,a0.1,a0.2,0,0,d5)) none fun d6=>bif decide (d6.2.2.2.2.2.2.1<d6.2.2.1) then bif decide (d6.2.2.2.2.2.2.2>d6.2.2.2.1) then some (d6.1,d6.2.1) else some (d6.1,d6.2.2.2.2.2.2.2) else bif decide (d6.2.2.2.2.2.2.2>d6.2.2.2.1) then some (d6.2.2.2.2.2.2.1,d6.2.1) else some (d6.2.2.2.2.2.2.1,d6.2.2.2.2.2.2.2)
def ZcM (x:(I×(I×((List Int)×Unit)))):Option I:=Zvc x.1 x.2.1 x.2.2.1
def ZkP:=conP true ZLp (.dat tI) ZcM
theorem Zqf:Zg Tryz.prog 109 ZkP:=Ze (calU ZDU [ZC9] 40 1048576 8 109) true (by rfl) (by rfl) (fun x r e=>(Zk _ _ _ _ _ _ _).trans ((show _=ZcM x by kernel_rfl).trans e)) (.inl rfl)
theorem Z0e (a b:Int):Zkh a b=some (cmpI a b 0):=by
 unfold Zkh cmpI
 simp only [cond_eq_ite,bne_self_eq_false,Bool.false_eq_true,if_false,decide_eq_true_eq]
 (repeat' split)<;>rfl
theorem ZYn (b:Bool):ZHK b=some (arrK b):=by cases b<;>rfl
theorem Z0W (a b c d:Int):Zr3 [a,b,c,d]=some (bif a !=0 then a else bif b !=0 then b else bif c !=0 then c else d):=by
 unfold Zr3
 have h:=ZwV 0 [a,b,c,d] () (by simp)
 have e:Vr (0,[a,b,c,d],(([a,b,c,d]:List Int).length:Int),0)=_:=h
 rw [e]
 unfold Zgv
 simp only [Zq,ZbB,Zgi]
 cases ha:a !=0<;>cases hb:b !=0<;>cases hc:c !=0<;>cases hd:d !=0<;>(try rfl)
 have:d=0:=by simpa using hd
 subst this;rfl
theorem ZFN (a b:En):Zvo a b=some (ordI a b):=by
 unfold Zvo Wo ZlX ZlO
 simp only [Z0e,ZYn,Zc,Z0W]
 congr 1
 rw [ZEm]
 have:IntKind.i64.wrap (arrK a.2.1 - arrK b.2.1)=arrK a.2.1 - arrK b.2.1:=wr (by unfold arrK;split<;>split<;>decide)
 rw [this]
 have ha:arrK a.2.1=0∨arrK a.2.1=1:=by unfold arrK;split<;>simp
 have hb:arrK b.2.1=0∨arrK b.2.1=1:=by unfold arrK;split<;>simp
 generalize arrK a.2.1=p at *
 generalize arrK b.2.1=q at *
 unfold cmpI
 simp only [cond_eq_ite,bne_iff_ne]
 (repeat' split)<;>omega
theorem half (a:Int) (h0:0≤a) (h:a<4611686018427387904):IntKind.i64.wrap ((IntKind.u64.wrap (IntKind.i64.wrap a)).fdiv (2 ^ min (Int.toNat 1) IntKind.u64.bits))=a / 2:=by
 have e1:IntKind.i64.wrap a=a:=wr (by omega)
 have e2:IntKind.u64.wrap a=a:=by
  simp [IntKind.wrap,IntKind.signed,IntKind.bits]
  omega
 have e3:(2:Int) ^ min (Int.toNat 1) IntKind.u64.bits=2:=by decide
 rw [e1,e2,e3,Int.fdiv_eq_ediv_of_nonneg _ (by omega)]
 exact wr (by omega)
theorem ZJf (l:List En) (hs:srt l) (hn:l.length<2305843009213693952) (n b0:Int) (b01:Bool) (b02 b03 b04 b05:Int) (e:En):∀ (k fuel i j:Nat),j - i≤k→k<fuel→i≤posT e l→posT e l≤j→j≤l.length→
  Zn ZdZ fuel (l,n,(i:Int),(j:Int),b0,b01,b02,b03,b04,b05,e)=some (l,n,(posT e l:Int),b0,b01,b02,b03,b04,b05,e)
 | k,0,i,j,h1,h2,_,_,_=>absurd h2 (by omega)
 | k,fuel+1,i,j,h1,h2,h3,h4,h5=>by
  rw [Zn]
  simp only [ZdZ,ZnD]
  by_cases hij:i<j
  ·rw [dT0 (show (i:Int)<(j:Int) by omega)]
   have hh:=half ((i:Int)+(j:Int)) (by omega) (by omega)
   rw [hh,show ((i:Int)+(j:Int)) / 2=(((i+j) / 2:Nat):Int) by omega]
   generalize hm:(i+j) / 2=m
   have hml:m<l.length:=by omega
   rw [dT0 (show (0:Int)≤(m:Int) by omega),tN0,List.getElem?_eq_getElem hml]
   simp only [cond_true,Zc,Zii]
   have hd:l[m]? = some l[m]:=List.getElem?_eq_getElem hml
   generalize l[m]=d at hd
   rw [show ((e.1,e.2.1,e.2.2.1,e.2.2.2.1,e.2.2.2.2.1,e.2.2.2.2.2):En)=e from rfl,ZFN]
   simp only [Zc]
   obtain ⟨k',rfl⟩:∃ k',k=k'+1:=⟨k - 1,by omega⟩
   by_cases ho:ordI d e<0
   ·rw [dT0 ho,show IntKind.i64.wrap ((m:Int)+1)=((m+1:Nat):Int) by rw [wr (by omega)];omega]
    have hp:m<posT e l:=by
     by_cases q:posT e l≤m
     ·exact absurd ho (ZDy hs m d q hd)
     ·omega
    exact ZJf l hs hn n b0 b01 b02 b03 b04 b05 e k' fuel (m+1) j (by omega) (by omega) (by omega) h4 h5
   ·rw [dF0 ho]
    have hp:posT e l≤m:=by
     by_cases q:m<posT e l
     ·exact absurd (Zy1 e l m d q hd) ho
     ·omega
    exact ZJf l hs hn n b0 b01 b02 b03 b04 b05 e k' fuel i m (by omega) (by omega) h3 hp (by omega)
  ·have:posT e l=i:=by omega
   rw [dF0 (show ¬ (i:Int)<(j:Int) by omega),this]
   rfl
theorem ZQs {e:En} {l:List En} (h:fndT e l=true):posT e l<l.length:=by
 obtain ⟨d,hd,_⟩:=Zo0 e l h
 exact (List.getElem?_eq_some_iff.1 hd).1
theorem ZSG (e:En) (l:List En) (d:En) (hd:l[posT e l]? = some d):fndT e l=(ordI d e==0):=by
 cases h:fndT e l with
 | true=>
  obtain ⟨c,hc,hk⟩:=Zo0 e l h
  rw [hd] at hc;cases hc
  exact (beq_iff_eq.2 (Zpr.2 hk)).symm
 | false=>exact (beq_eq_false_iff_ne.2 (ZNm e l h d hd)).symm
theorem ZH0 (l:List En) (e:En) (hs:srt l) (hn:l.length<2305843009213693952):ZyJ l e=some ((posT e l:Int),fndT e l,()):=by
 unfold ZyJ
 have h:=ZJf l hs hn (l.length:Int) e.1 e.2.1 e.2.2.1 e.2.2.2.1 e.2.2.2.2.1 e.2.2.2.2.2 e l.length Zr 0 l.length (by omega) (by unfold Zr;omega) (Nat.zero_le _) (ZDz e l) (Nat.le_refl _)
 rw [show Zje (l,(l.length:Int),0,(l.length:Int),e.1,e.2.1,e.2.2.1,e.2.2.2.1,e.2.2.2.2.1,e.2.2.2.2.2,e)=_ from h]
 simp only [Zc]
 by_cases hp:posT e l<l.length
 ·rw [dT0 (show (posT e l:Int)<(l.length:Int) by omega),dT0 (show (0:Int)≤(posT e l:Int) by omega),tN0]
  have hd:l[posT e l]? = some l[posT e l]:=List.getElem?_eq_getElem hp
  rw [hd]
  simp only [cond_true,Zc,Zii,ZFN]
  rw [ZSG e l _ hd]
 ·rw [dF0 (show ¬ (posT e l:Int)<(l.length:Int) by omega)]
  cases hf:fndT e l with
  | true=>exact absurd (ZQs hf) hp
  | false=>rfl
theorem ZKP (e:En) (L:List En):∀ (r:List En) (j:Nat),j+r.length=L.length→
  Zq (fun i s d=>Z9 e.1 e.2.1 e.2.2.1 e.2.2.2.1 e.2.2.2.2.1 e.2.2.2.2.2 L i d) (fun s=>ZbH e.1 e.2.1 e.2.2.1 e.2.2.2.1 e.2.2.2.2.1 e.2.2.2.2.2 L) j r ()=some (L,((j+posT e r:Nat):Int),e)
 | [],j,h=>by
  show some (L,(L.length:Int),e)=_
  simp only [List.length_nil,Nat.add_zero] at h
  rw [← h];rfl
 | d::r,j,h=>by
  have hb:Z9 e.1 e.2.1 e.2.2.1 e.2.2.2.1 e.2.2.2.2.1 e.2.2.2.2.2 L j d=bif decide (ordI d e<0) then some (.inl ()) else some (.inr (L,(j:Int),e)):=by
   unfold Z9 QW
   simp only [Zia,Zc]
  unfold posT
  by_cases q:ordI d e<0
  ·rw [dT0 q] at hb
   rw [if_pos q,QB hb,ZKP e L r (j+1) (by simp only [List.length_cons] at h;omega),show j+(posT e r+1)=j+1+posT e r by omega]
  ·rw [dF0 q] at hb
   rw [if_neg q]
   unfold Zq
   rw [hb]
   rfl
theorem ZyW (l:List En) (e:En) (hl:l.length<9223372036854775807):Zh7 l e=some ((posT e l:Int),fndT e l,()):=by
 have h2:=ZKP e l l 0 (by omega)
 rw [Nat.zero_add] at h2
 unfold Zh7
 rw [show KN (l,0,e)=some (l,(posT e l:Int),e) from (Zlq e.1 e.2.1 e.2.2.1 e.2.2.2.1 e.2.2.2.2.1 e.2.2.2.2.2 l () hl).trans h2]
 simp only [Zc]
 by_cases hp:posT e l<l.length
 ·have hd:l[posT e l]? = some l[posT e l]:=List.getElem?_eq_getElem hp
  rw [dT0 (show (posT e l:Int)<(l.length:Int) by omega),dT0 (show (0:Int)≤(posT e l:Int) by omega),tN0,hd]
  simp only [cond_true,Zc,QW,Zia]
  rw [ZSG e l _ hd]
 ·rw [dF0 (show ¬ (posT e l:Int)<(l.length:Int) by omega)]
  cases hf:fndT e l with
  | true=>exact absurd (ZQs hf) hp
  | false=>rfl
def K1 (b0 b0_1 b1 b1_1 b2 b2_1:Int) (s24:List Int) (i:Nat) (s8 s9 d:Int):Option ((Int×Int)⊕Q3):=
 Za (Zex ([d],())) (none) fun d14=>
  bif !d14 then
  some (.inl (s8,s9))
 else bif decide (d≤b2) then
  bif decide (d≥b2_1) then
  some (.inl (if d>s8 then d else s8,if d<s9 then d else s9))
 else some (.inl (if d>s8 then d else s8,s9))
 else bif decide (d≥b2_1) then
  some (.inl (s8,if d<s9 then d else s9))
 else some (.inl (s8,s9))
def Zhn (b0 b0_1 b1 b1_1 b2 b2_1:Int) (s24:List Int) (s8 s9:Int):Option Q3:=
 some (s8,s9,b0,b0_1,b1,b1_1,b2,b2_1)
abbrev Zzn (b0 b0_1 b1 b1_1 b2 b2_1:Int) (s24:List Int) (i:Nat) (s:Int×Int):Yt:=(s.1,s.2,s24,(s24.length:Int),(i:Int),b0,b0_1,b1,b1_1,b2,b2_1)
def ZmK (b0 b0_1 b1 b1_1 b2 b2_1:Int) (s24:List Int) (s:Int×Int):Option Q3:=Zq (fun i s d=>K1 b0 b0_1 b1 b1_1 b2 b2_1 s24 i s.1 s.2 d) (fun s=>Zhn b0 b0_1 b1 b1_1 b2 b2_1 s24 s.1 s.2) 0 s24 s
theorem Zzb (b0 b0_1 b1 b1_1 b2 b2_1:Int) (s24:List Int) (s:Int×Int) (hl:s24.length<9223372036854775807):WJ (s.1,s.2,s24,(s24.length:Int),0,b0,b0_1,b1,b1_1,b2,b2_1)=ZmK b0 b0_1 b1 b1_1 b2 b2_1 s24 s:=by
 unfold WJ ZmK
 refine Zs s24 (Zzn b0 b0_1 b1 b1_1 b2 b2_1 s24) _ _ ?_ ?_ s (by unfold Zr;omega)
 ·intro i s d hi hd
  have e1:decide ((i:Int)<(s24.length:Int))=true:=dT0 (by omega)
  have e2:decide (0≤(i:Int))=true:=dT0 (by omega)
  have e3:Int.toNat (i:Int)=i:=tN0 i
  have e4:=Zu hi (Nat.le_of_lt hl)
  show VK (s.1) (s.2) (s24) ((s24.length:Int)) ((i:Int)) (b0) (b0_1) (b1) (b1_1) (b2) (b2_1)=upd _ (K1 b0 b0_1 b1 b1_1 b2 b2_1 s24 i s.1 s.2 d)
  unfold VK K1
  simp only [e1,e2,e3,e4,hd,cond_true,cond_false,Zc,ZD,ZG,ZE,ZK,ZL,ZF]
 ·intro s
  have e1:decide ((s24.length:Int)<(s24.length:Int))=false:=dF0 (by omega)
  show VK (s.1) (s.2) (s24) ((s24.length:Int)) ((s24.length:Int)) (b0) (b0_1) (b1) (b1_1) (b2) (b2_1)=_
  unfold VK Zhn
  rw [e1]
  rfl
abbrev KZ:=((List Int)×Int×Int×Int×Int×Int×Int×Int×Int×Int)
abbrev QN:=(Int×Int×Int×Int×Int×Int×Int×Int)
def HM (s2:List Int) (s8 s9 s10 b0 b0_1 b1 b1_1 b2 b2_1:Int):Option (((List Int)×Int×Int×Int×Int×Int×Int×Int×Int×Int)⊕(Int×Int×Int×Int×Int×Int×Int×Int)):=bif decide (s10<(s2.length:Int)) then bif decide (0≤s10) then Za s2[s10.toNat]? none fun d12=>bif decide (d12≤b2) then bif decide (d12>s8) then bif decide (d12≥b2_1) then bif decide (d12<s9) then some (.inl (s2,d12,d12,IntKind.i64.wrap (s10+1),b0,b0_1,b1,b1_1,b2,b2_1)) else some (.inl (s2,d12,s9,IntKind.i64.wrap (s10+1),b0,b0_1,b1,b1_1,b2,b2_1)) else some (.inl (s2,d12,s9,IntKind.i64.wrap (s10+1),b0,b0_1,b1,b1_1,b2,b2_1)) else bif decide (d12≥b2_1) then bif decide (d12<s9) then some (.inl (s2,s8,d12,IntKind.i64.wrap (s10+1),b0,b0_1,b1,b1_1,b2,b2_1)) else some (.inl (s2,s8,s9,IntKind.i64.wrap (s10+1),b0,b0_1,b1,b1_1,b2,b2_1)) else some (.inl (s2,s8,s9,IntKind.i64.wrap (s10+1),b0,b0_1,b1,b1_1,b2,b2_1)) else bif decide (d12≥b2_1) then bif decide (d12<s9) then some (.inl (s2,s8,d12,IntKind.i64.wrap (s10+1),b0,b0_1,b1,b1_1,b2,b2_1)) else some (.inl (s2,s8,s9,IntKind.i64.wrap (s10+1),b0,b0_1,b1,b1_1,b2,b2_1)) else some (.inl (s2,s8,s9,IntKind.i64.wrap (s10+1),b0,b0_1,b1,b1_1,b2,b2_1)) else none else some (.inr (s8,s9,b0,b0_1,b1,b1_1,b2,b2_1))
def ZlF:KZ→Option (KZ⊕QN):=fun (a,b,c,d,e,f,g,h,i,j)=>HM a b c d e f g h i j
def Vt (x:KZ):Option QN:=Zn ZlF Zr x
def Zse (a0 a1:I) (a2:List Int):Option I:=bif decide (a1.1>a1.2) then some (a0.1,a0.2) else bif decide (a0.1>a0.2) then some (a1.1,a1.2) else Za (ZH (a0,a1,())) none fun d5=>Za (Vt (a2,-2147483648,2147483647,0,a0.1,a0.2,0,0,d5)) none fun d6=>bif decide (d6.2.2.2.2.2.2.1<d6.2.2.1) then bif decide (d6.2.2.2.2.2.2.2>d6.2.2.2.1) then some (d6.1,d6.2.1) else some (d6.1,d6.2.2.2.2.2.2.2) else bif decide (d6.2.2.2.2.2.2.2>d6.2.2.2.1) then some (d6.2.2.2.2.2.2.1,d6.2.1) else some (d6.2.2.2.2.2.2.1,d6.2.2.2.2.2.2.2)
def ZcY (x:(I×(I×((List Int)×Unit)))):Option I:=Zse x.1 x.2.1 x.2.2.1
def Ki (b0 b0_1 b1 b1_1 b2 b2_1:Int) (s2:List Int) (i:Nat) (s8 s9 d:Int):Option ((Int×Int)⊕QN):=
 bif decide (d≤b2) then
  bif decide (d>s8) then
  bif decide (d≥b2_1) then
  bif decide (d<s9) then
  some (.inl (d,d))
 else some (.inl (d,s9))
 else some (.inl (d,s9))
 else bif decide (d≥b2_1) then
  bif decide (d<s9) then
  some (.inl (s8,d))
 else some (.inl (s8,s9))
 else some (.inl (s8,s9))
 else bif decide (d≥b2_1) then
  bif decide (d<s9) then
  some (.inl (s8,d))
 else some (.inl (s8,s9))
 else some (.inl (s8,s9))
def Zgo (b0 b0_1 b1 b1_1 b2 b2_1:Int) (s2:List Int) (s8 s9:Int):Option QN:=
 some (s8,s9,b0,b0_1,b1,b1_1,b2,b2_1)
abbrev Zxe (b0 b0_1 b1 b1_1 b2 b2_1:Int) (s2:List Int) (i:Nat) (s:Int×Int):KZ:=(s2,s.1,s.2,(i:Int),b0,b0_1,b1,b1_1,b2,b2_1)
def Zls (b0 b0_1 b1 b1_1 b2 b2_1:Int) (s2:List Int) (s:Int×Int):Option QN:=Zq (fun i s d=>Ki b0 b0_1 b1 b1_1 b2 b2_1 s2 i s.1 s.2 d) (fun s=>Zgo b0 b0_1 b1 b1_1 b2 b2_1 s2 s.1 s.2) 0 s2 s
theorem Zw2 (b0 b0_1 b1 b1_1 b2 b2_1:Int) (s2:List Int) (s:Int×Int) (hl:s2.length<9223372036854775807):Vt (s2,s.1,s.2,0,b0,b0_1,b1,b1_1,b2,b2_1)=Zls b0 b0_1 b1 b1_1 b2 b2_1 s2 s:=by
 unfold Vt Zls
 refine Zs s2 (Zxe b0 b0_1 b1 b1_1 b2 b2_1 s2) _ _ ?_ ?_ s (by unfold Zr;omega)
 ·intro i s d hi hd
  have e1:decide ((i:Int)<(s2.length:Int))=true:=dT0 (by omega)
  have e2:decide (0≤(i:Int))=true:=dT0 (by omega)
  have e3:Int.toNat (i:Int)=i:=tN0 i
  have e4:=Zu hi (Nat.le_of_lt hl)
  show HM (s2) (s.1) (s.2) ((i:Int)) (b0) (b0_1) (b1) (b1_1) (b2) (b2_1)=upd _ (Ki b0 b0_1 b1 b1_1 b2 b2_1 s2 i s.1 s.2 d)
  unfold HM Ki
  simp only [e1,e2,e3,e4,hd,cond_true,cond_false,Zc,ZD,ZG,ZE,ZK,ZL,ZF]
 ·intro s
  have e1:decide ((s2.length:Int)<(s2.length:Int))=false:=dF0 (by omega)
  show HM (s2) (s.1) (s.2) ((s2.length:Int)) (b0) (b0_1) (b1) (b1_1) (b2) (b2_1)=_
  unfold HM Zgo
  rw [e1]
  rfl
def stpT (f:I→I→I) (l:List En) (e:En):List En:=if Zd (vl e) then l else pinT f e l
def addT (f:I→I→I) (l es:List En):List En:=es.foldl (stpT f) l
theorem ZzF (f:I→I→I) (l:List En) (e:En):(stpT f l e).length≤l.length+1:=by
 unfold stpT
 have:=ZQO f e l
 split<;>omega
theorem ZzG {f:I→I→I} {l:List En} {e:En} (h:srt l):srt (stpT f l e):=by
 unfold stpT
 split
 ·exact h
 ·exact ZQP h
theorem ZIH (f:I→I→I):∀ (es l:List En),(addT f l es).length≤l.length+es.length
 | [],l=>Nat.le_refl _
 | e::r,l=>by
  have h1:=ZIH f r (stpT f l e)
  have h2:=ZzF f l e
  show (addT f (stpT f l e) r).length≤_
  rw [List.length_cons];omega
theorem Zrs {f:I→I→I}:∀ {es l:List En},srt l→srt (addT f l es)
 | [],l,h=>h
 | e::r,l,h=>Zrs (es:=r) (ZzG h)
theorem ZQw {n p:Nat} (h:n≤1000000000) (hp:p≤n):decide (0≤(p:Int)∧(p:Int)≤(n:Int)∧(n+2)*48≤lim)=true:=dT0 (by unfold lim;omega)
theorem ZT1 (L:List En) (j:Nat) (s:List En) (d:En) (hs:srt s) (hn:s.length≤1000000000):ZbN L j s d=some (.inl (stpT Zl s d)):=by
 unfold ZbN stpT
 rw [show decide (d.2.2.2.2.1>d.2.2.2.2.2)=Zd (vl d) from rfl]
 cases hE:Zd (vl d)
 case true=>rfl
 simp only [cond_false,Zey,ZH0 s d hs (by omega),Zc,Bool.false_eq_true,if_false]
 cases hf:fndT d s
 ·simp only [Bool.not_false,cond_true,ZQw hn (ZDz d s),tN0]
  rw [ZEp _ _ _ hf]
 ·obtain ⟨x,hx,hk⟩:=Zo0 d s hf
  simp only [Bool.not_true,cond_false,cond_true,dT0 (show (0:Int)≤(posT d s:Int) by omega),tN0,hx,Zc]
  rw [ZEq _ _ _ x hf hx]
  rw [show decide (x.2.2.2.2.1>x.2.2.2.2.2)=Zd (vl x) from rfl]
  unfold Zl
  cases hX:Zd (vl x)
  ·simp only [cond_false,hE,Bool.false_eq_true,if_false]
   rfl
  ·simp only [cond_true,hE,Bool.false_eq_true,if_false,if_true]
   rfl
theorem ZTb (L:List En) (j:Nat) (s:List En) (d:En) (hn:s.length≤1000000000):QT L j s d=some (.inl (stpT rJoin s d)):=by
 unfold QT stpT
 rw [show decide (d.2.2.2.2.1>d.2.2.2.2.2)=Zd (vl d) from rfl]
 cases hE:Zd (vl d)
 case true=>rfl
 simp only [cond_false,QX,ZyW s d (by omega),Zc,Bool.false_eq_true,if_false]
 have hp:=ZDz d s
 cases hf:fndT d s
 ·have e1:decide ((0:Int)≤0∧0≤(posT d s:Int)∧(posT d s:Int)≤(s.length:Int))=true:=dT0 (by omega)
  have e2:decide (0≤(posT d s:Int)∧(posT d s:Int)≤(s.length:Int)∧(s.length:Int)≤(s.length:Int))=true:=dT0 (by omega)
  have lm:∀ n:Nat,n≤1000000001→decide ((n+1)*48≤lim)=true:=fun n h=>dT0 (by unfold lim;omega)
  simp only [cond_false,e1,e2,cond_true,tN0,Int.toNat_zero,List.drop_zero,List.nil_append,List.length_nil,Nat.zero_add,List.take_length]
  rw [lm _ (by simp only [List.length_take];omega),lm _ (by simp only [List.length_take,List.length_cons,List.length_nil];omega),lm _ (by simp only [List.length_append,List.length_take,List.length_drop,List.length_cons,List.length_nil];omega),ZEp _ _ _ hf]
  simp only [cond_true,List.append_assoc,List.singleton_append]
 ·obtain ⟨x,hx,hk⟩:=Zo0 d s hf
  simp only [cond_true,dT0 (show (0:Int)≤(posT d s:Int) by omega),tN0,hx,Zc,ZH,KK]
  rw [ZEq _ _ _ x hf hx]
  rfl
theorem ZeR {σ α Y:Type} {f:Nat→σ→α→Option (σ⊕Y)} {fin:σ→Option Y} {g:σ→α→σ} (ok:σ→List α→Prop) (h:∀ j s d r,ok s (d::r)→f j s d=some (.inl (g s d))∧ok (g s d) r) :
  ∀ (r:List α) (j:Nat) (s:σ),ok s r→Zq f fin j r s=fin (r.foldl g s)
 | [],_,_,_=>rfl
 | d::r,j,s,hs=>by
  obtain ⟨h1,h2⟩:=h j s d r hs
  rw [QB h1,ZeR ok h r (j+1) (g s d) h2];rfl
theorem ZKJ (l es:List En) (hs:srt l) (hn:l.length+es.length≤1000000000):ZtR l es=some (addT Zl l es):=by
 unfold ZtR
 simp only [List.nil_append,List.length_nil,Nat.zero_add]
 rw [show decide ((l.length+1)*48≤lim)=true from dT0 (by unfold lim;omega),ZE2 es l (by omega)]
 unfold Zku
 rw [ZeR (g:=stpT Zl) (fun s r=>srt s∧s.length+r.length≤1000000000) (fun j s d r h=>⟨ZT1 es j s d h.1 (by have:=h.2;rw [List.length_cons] at this;omega),ZzG h.1,by
  have:=h.2;have:=ZzF Zl s d;rw [List.length_cons] at *;omega⟩) es 0 l ⟨hs,hn⟩]
 rfl
theorem ZDr (l es:List En) (hn:l.length+es.length≤1000000000):Zik l es=some (addT rJoin l es):=by
 unfold Zik
 simp only [List.nil_append,List.length_nil,Nat.zero_add]
 rw [show decide ((l.length+1)*48≤lim)=true from dT0 (by unfold lim;omega),Znz es l (by omega)]
 unfold Zdz
 rw [ZeR (g:=stpT rJoin) (fun s r=>s.length+r.length≤1000000000) (fun j s d r h=>⟨ZTb es j s d (by rw [List.length_cons] at h;omega),by
  have:=ZzF rJoin s d;rw [List.length_cons] at *;omega⟩) es 0 l hn]
 rfl
theorem ZQ9 (z x y:I) (L:List Int):∀ (l:List Int) (j:Nat) (s:I),Zq (fun i s d=>K1 x.1 x.2 y.1 y.2 z.1 z.2 L i s.1 s.2 d) (fun s=>Zhn x.1 x.2 y.1 y.2 z.1 z.2 L s.1 s.2) j l s =
  some ((l.foldl (fun s d=>if fitB d then (if d≤z.1 then mx s.1 d else s.1,if d≥z.2 then mn s.2 d else s.2) else (s.1,s.2)) s).1,(l.foldl (fun s d=>if fitB d then (if d≤z.1 then mx s.1 d else s.1,if d≥z.2 then mn s.2 d else s.2) else (s.1,s.2)) s).2,x.1,x.2,y.1,y.2,z.1,z.2)
 | [],j,s=>rfl
 | d::r,j,s=>by
  have h:K1 x.1 x.2 y.1 y.2 z.1 z.2 L j s.1 s.2 d=some (.inl (if fitB d then (if d≤z.1 then mx s.1 d else s.1,if d≥z.2 then mn s.2 d else s.2) else (s.1,s.2))):=by
   unfold K1 Zex
   simp only [ZFL,Zc,Zdb,Zda]
   cases fitB d
   ·rfl
   ·by_cases h1:d≤z.1<;>by_cases h2:d≥z.2<;>simp [h1,h2]
  rw [QB h,ZQ9 z x y L r (j+1)]
  rfl
theorem ZFK (x y:I) (l:List Int) (hl:l.length<9223372036854775807):Zvc x y l=some (widV x y l):=by
 unfold Zvc widV
 rw [show decide (y.1>y.2)=Zd y from rfl,show decide (x.1>x.2)=Zd x from rfl]
 cases hy:Zd y
 ·cases hx:Zd x
  ·simp only [cond_false,Bool.false_eq_true,if_false,ZM,Vo,Zc]
   have h:=Zzb x.1 x.2 0 0 (Zl x y).1 (Zl x y).2 l aa hl
   have h2:=ZQ9 (Zl x y) x (0,0) l l 0 aa
   have e:WJ (-2147483648,2147483647,l,(l.length:Int),0,x.1,x.2,0,0,Zl x y)=_:=h.trans h2
   rw [e]
   simp only [Zc]
   unfold widS
   generalize List.foldl _ aa l=w
   by_cases h1:(Zl x y).1<x.1<;>by_cases h2:(Zl x y).2>x.2<;>simp [h1,h2]
  ·rfl
 ·rfl
theorem ZOi (z x y:I) (L:List Int):∀ (l:List Int) (j:Nat) (s:I),Zq (fun i s d=>Ki x.1 x.2 y.1 y.2 z.1 z.2 L i s.1 s.2 d) (fun s=>Zgo x.1 x.2 y.1 y.2 z.1 z.2 L s.1 s.2) j l s =
  some ((l.foldl (fun s d=>(if d≤z.1∧d>s.1 then d else s.1,if d≥z.2∧d<s.2 then d else s.2)) s).1,(l.foldl (fun s d=>(if d≤z.1∧d>s.1 then d else s.1,if d≥z.2∧d<s.2 then d else s.2)) s).2,x.1,x.2,y.1,y.2,z.1,z.2)
 | [],j,s=>rfl
 | d::r,j,s=>by
  have h:Ki x.1 x.2 y.1 y.2 z.1 z.2 L j s.1 s.2 d=some (.inl (if d≤z.1∧d>s.1 then d else s.1,if d≥z.2∧d<s.2 then d else s.2)):=by
   unfold Ki
   by_cases h1:d≤z.1<;>by_cases h2:d>s.1<;>by_cases h3:d≥z.2<;>by_cases h4:d<s.2<;>simp [h1,h2,h3,h4]
  rw [QB h,ZOi z x y L r (j+1)]
  rfl
theorem ZDu (x y:I) (l:List Int) (hl:l.length<9223372036854775807):Zse x y l=some (rwidV x y l):=by
 unfold Zse rwidV
 rw [show decide (y.1>y.2)=Zd y from rfl,show decide (x.1>x.2)=Zd x from rfl]
 cases hy:Zd y
 ·cases hx:Zd x
  ·simp only [cond_false,Bool.false_eq_true,if_false,ZH,KK,Zc]
   have h:=Zw2 x.1 x.2 0 0 (rJoin x y).1 (rJoin x y).2 l aa hl
   have h2:=ZOi (rJoin x y) x (0,0) l l 0 aa
   have e:Vt (l,-2147483648,2147483647,0,x.1,x.2,0,0,rJoin x y)=_:=h.trans h2
   rw [e]
   simp only [Zc]
   unfold rwidS
   generalize List.foldl _ aa l=w
   by_cases h1:(rJoin x y).1<x.1<;>by_cases h2:(rJoin x y).2>x.2<;>simp [h1,h2]
  ·rfl
 ·rfl
def widF (st:List Int) (o n:I):I:=widV o n st
def isClo (k f:Nat) (args:List AV):Bool:=match args[k]? with
 | some (.clo g _ _)=>Nat.beq g f
 | _=>false
def ZRl:List Sh:=[.dat (.sl tI),.dat (.int .i64)]
def ZTu:List Con:=[⟨110,Kz,YS⟩]
def ZGy (a0:List I) (a1:Int):Option I:=bif decide (a1≥(a0.length:Int)) then some (1,0) else bif decide (0≤a1) then Za a0[a1.toNat]? none fun d3=>some (d3.1,d3.2) else none
def ZcU (x:(List I)×(Int×Unit)):Option I:=ZGy x.1 x.2.1
def Zrg:=conP true ZRl (.dat tI) ZcU
theorem Zzy:Zg Tryz.prog 127 Zrg:=Ze (calU ZTu [] 40 1048576 8 127) true (by rfl) (by rfl) (fun x r e=>(Zk _ _ _ _ _ _ _).trans ((show _=ZcU x by kernel_rfl).trans e)) (.inl rfl)
def ZIL:List Sh:=[.dat (.sl tI),.dat (.sl tI),.clo 158 [] []]
def Ziw:Nat→List Nat:=fun c=>bif c.beq 0 then [0,1,2,7,10,11] else [7]
def ZAD:List Con:=[⟨127,Zrg,Zzy⟩,⟨111,YQ,VH⟩]
def Zcu:StS:=⟨[(0,.sl tI),(1,.sl tI),(2,.clo 158 [] []),(7,.row 0),(10,.int .i64),(11,.int .i64)],[(0,.row tI)],1⟩
def Y0:StS:=⟨[(7,.row 0)],[(0,.row tI)],1⟩
abbrev KQ:=((List I)×(List I)×Int×Int×(List I))
def Zv9:StD Zcu→KQ:=fun ((a,b,(_,_),_,c,d,_),(e,_))=>(a,b,c,d,e)
def ZxF:KQ→StD Zcu:=fun (a,b,c,d,e)=>((a,b,((),()),(),c,d,()),(e,()))
abbrev QH:=(List I)
def Ztc (d:StD Y0):QH:=(d.2.1)
def Zeb (x:QH):StD Y0:=(((),()),(x,()))
def HF (s0 s1:List I) (s10 s11:Int) (b0:List I):Option (((List I)×(List I)×Int×Int×(List I))⊕(List I)):=bif decide (s11<s10) then bif decide (0≤s11) then Za s0[s11.toNat]? none fun d7=>Za (ZcU (s1,s11,())) none fun d8=>Za (ZM ([d7,d8],())) none fun d9=>bif decide ((b0.length+[d9].length+1)*16≤lim) then some (.inl (s0,s1,s10,IntKind.i64.wrap (s11+1),b0++[d9])) else none else none else some (.inr b0)
def Zly:KQ→Option (KQ⊕QH):=fun (a,b,c,d,e)=>HF a b c d e
def Zb4 (x:KQ):Option QH:=Zn Zly Zr x
def Zpv:Nat→Tm→Prog (Nat×Tm):=(varP 0 (fun T h=>(rdS Zcu T h).map Zv9) Zb4 (altE 2 Y0 Zeb) (fun _ _=>.fail))
def ZBq:Lpc:=⟨191,0,28,(ownP [] [(7,tI)] (Ziw 0) (fun base T=>.norm base (Ziw 0) T (Zpv base))),by kernel_rfl,by kernel_rfl,(HB (loopU ZAD [] 40 1048576 8 (keep:=Ziw) (q:=Zpv) (by kernel_rfl) (ZA (s:=Zcu) (un:=ZxF) (by rfl) (fun _=>rfl) (Zp (s:=Y0) (un:=Zeb) (flat:=Ztc) (by rfl) (fun _=>rfl)) (step:=Zly) (fun _=>by kernel_rfl) (fun _ _ e=>⟨_,e⟩) (Zo 2 Y0 Zeb) (ZI.fail _ _))))⟩
def Zr5 (a0 a1:List I):Option (List I):=Za (Zb4 (a0,a1,(a0.length:Int),0,[])) none fun d4=>some d4
def Vp (x:((List I)×((List I)×((Unit×Unit)×Unit)))):Option (List I):=Zr5 x.1 x.2.1
def ZnT:=conP true ZIL (.dat (.sl tI)) Vp
theorem Zxi:Zg Tryz.prog 191 ZnT:=Ze (calU ZAD [ZBq] 40 1048576 8 191) true (by rfl) (by rfl) (fun x r e=>(Zk _ _ _ _ _ _ _).trans ((show _=Vp x by kernel_rfl).trans e)) (.inl rfl)
def ZbD (s1 s0:List I) (i:Nat) (b0:List I) (d:I):Option ((List I)⊕QH):=
 Za (ZcU (s1,(i:Int),())) (none) fun d8=>
  Za (ZM ([d,d8],())) (none) fun d9=>
  bif decide ((b0.length+[d9].length+1)*16≤lim) then
  some (.inl (b0++[d9]))
 else none
def Zgj (s1 s0 b0:List I):Option QH:=
 some b0
abbrev Zw8 (s1 s0:List I) (i:Nat) (s:List I):KQ:=(s0,s1,(s0.length:Int),(i:Int),s)
def Zgx (s1 s0 s:List I):Option QH:=Zq (fun i s d=>ZbD s1 s0 i s d) (fun s=>Zgj s1 s0 s) 0 s0 s
theorem ZwX (s1 s0 s:List I) (hl:s0.length<9223372036854775807):Zb4 (s0,s1,(s0.length:Int),0,s)=Zgx s1 s0 s:=by
 unfold Zb4 Zgx
 refine Zs s0 (Zw8 s1 s0) _ _ ?_ ?_ s (by unfold Zr;omega)
 ·intro i s d hi hd
  have e1:decide ((i:Int)<(s0.length:Int))=true:=dT0 (by omega)
  have e2:decide (0≤(i:Int))=true:=dT0 (by omega)
  have e3:Int.toNat (i:Int)=i:=tN0 i
  have e4:=Zu hi (Nat.le_of_lt hl)
  show HF (s0) (s1) ((s0.length:Int)) ((i:Int)) (s)=upd _ (ZbD s1 s0 i s d)
  unfold HF ZbD
  simp only [e1,e2,e3,e4,hd,cond_true,cond_false,Zc,ZD,ZG,ZE,ZK,ZL,ZF]
 ·intro s
  have e1:decide ((s0.length:Int)<(s0.length:Int))=false:=dF0 (by omega)
  show HF (s0) (s1) ((s0.length:Int)) ((s0.length:Int)) (s)=_
  unfold HF Zgj
  rw [e1]
  rfl
def ZIM:List Sh:=[.dat (.sl tI),.dat (.sl tI),.clo 159 [] [.view [.sln (.int .i64)] 0]]
def Zix:Nat→List Nat:=fun c=>bif c.beq 0 then [0,1,2,7,10,11] else [7]
def ZAE:List Con:=[⟨127,Zrg,Zzy⟩,⟨109,ZkP,Zqf⟩]
def Zcv:StS:=⟨[(0,.sl tI),(1,.sl tI),(2,.clo 159 [] [.view [.sl (.int .i64)] 0]),(7,.row 0),(10,.int .i64),(11,.int .i64)],[(0,.row tI)],1⟩
def Y1:StS:=⟨[(7,.row 0)],[(0,.row tI)],1⟩
abbrev KR:=((List I)×(List I)×(List Int)×Int×Int×(List I))
def Zwa:StD Zcv→KR:=fun ((a,b,(_,((c,_),_)),_,d,e,_),(f,_))=>(a,b,c,d,e,f)
def ZxG:KR→StD Zcv:=fun (a,b,c,d,e,f)=>((a,b,((),((c,()),())),(),d,e,()),(f,()))
abbrev QI:=(List I)
def Ztd (d:StD Y1):QI:=(d.2.1)
def Zec (x:QI):StD Y1:=(((),()),(x,()))
def HG (s0 s1:List I) (s2:List Int) (s10 s11:Int) (b0:List I):Option (((List I)×(List I)×(List Int)×Int×Int×(List I))⊕(List I)):=bif decide (s11<s10) then bif decide (0≤s11) then Za s0[s11.toNat]? none fun d8=>Za (ZcU (s1,s11,())) none fun d9=>Za (ZcM (d8,d9,s2,())) none fun d10=>bif decide ((b0.length+[d10].length+1)*16≤lim) then some (.inl (s0,s1,s2,s10,IntKind.i64.wrap (s11+1),b0++[d10])) else none else none else some (.inr b0)
def Zlz:KR→Option (KR⊕QI):=fun (a,b,c,d,e,f)=>HG a b c d e f
def Zb5 (x:KR):Option QI:=Zn Zlz Zr x
def Zpw:Nat→Tm→Prog (Nat×Tm):=(varP 0 (fun T h=>(rdS Zcv T h).map Zwa) Zb5 (altE 2 Y1 Zec) (fun _ _=>.fail))
def ZBr:Lpc:=⟨191,0,28,(ownP [] [(7,tI)] (Zix 0) (fun base T=>.norm base (Zix 0) T (Zpw base))),by kernel_rfl,by kernel_rfl,(HB (loopU ZAE [] 40 1048576 8 (keep:=Zix) (q:=Zpw) (by kernel_rfl) (ZA (s:=Zcv) (un:=ZxG) (by rfl) (fun _=>rfl) (Zp (s:=Y1) (un:=Zec) (flat:=Ztd) (by rfl) (fun _=>rfl)) (step:=Zlz) (fun _=>by kernel_rfl) (fun _ _ e=>⟨_,e⟩) (Zo 2 Y1 Zec) (ZI.fail _ _))))⟩
def Zr6 (a0 a1:List I) (a2:List Int):Option (List I):=Za (Zb5 (a0,a1,a2,(a0.length:Int),0,[])) none fun d5=>some d5
def Zgf (x:((List I)×((List I)×((Unit×(((List Int)×Unit)×Unit))×Unit)))):Option (List I):=Zr6 x.1 x.2.1 x.2.2.1.2.1.1
def ZnU:=conR false ZIM tI Zgf
theorem Zxj:Zg Tryz.prog 191 ZnU:=Zhk (calU ZAE [ZBr] 40 1048576 8 191) false (by rfl) (fun x r e=>(Zn2 _ _ _ _ _ _ _).trans ((show _=Zgf x by kernel_rfl).trans e)) (.inr (by rfl))
def ZbE (s1:List I) (s2:List Int) (s0:List I) (i:Nat) (b0:List I) (d:I):Option ((List I)⊕QI):=
 Za (ZcU (s1,(i:Int),())) (none) fun d9=>
  Za (ZcM (d,d9,s2,())) (none) fun d10=>
  bif decide ((b0.length+[d10].length+1)*16≤lim) then
  some (.inl (b0++[d10]))
 else none
def Zgk (s1:List I) (s2:List Int) (s0 b0:List I):Option QI:=
 some b0
abbrev Zw9 (s1:List I) (s2:List Int) (s0:List I) (i:Nat) (s:List I):KR:=(s0,s1,s2,(s0.length:Int),(i:Int),s)
def Zgy (s1:List I) (s2:List Int) (s0 s:List I):Option QI:=Zq (fun i s d=>ZbE s1 s2 s0 i s d) (fun s=>Zgk s1 s2 s0 s) 0 s0 s
theorem ZwY (s1:List I) (s2:List Int) (s0 s:List I) (hl:s0.length<9223372036854775807):Zb5 (s0,s1,s2,(s0.length:Int),0,s)=Zgy s1 s2 s0 s:=by
 unfold Zb5 Zgy
 refine Zs s0 (Zw9 s1 s2 s0) _ _ ?_ ?_ s (by unfold Zr;omega)
 ·intro i s d hi hd
  have e1:decide ((i:Int)<(s0.length:Int))=true:=dT0 (by omega)
  have e2:decide (0≤(i:Int))=true:=dT0 (by omega)
  have e3:Int.toNat (i:Int)=i:=tN0 i
  have e4:=Zu hi (Nat.le_of_lt hl)
  show HG (s0) (s1) (s2) ((s0.length:Int)) ((i:Int)) (s)=upd _ (ZbE s1 s2 s0 i s d)
  unfold HG ZbE
  simp only [e1,e2,e3,e4,hd,cond_true,cond_false,Zc,ZD,ZG,ZE,ZK,ZL,ZF]
 ·intro s
  have e1:decide ((s0.length:Int)<(s0.length:Int))=false:=dF0 (by omega)
  show HG (s0) (s1) (s2) ((s0.length:Int)) ((s0.length:Int)) (s)=_
  unfold HG Zgk
  rw [e1]
  rfl
abbrev Kf:=((List I)×(List I)×Int×(List I))
abbrev Qu:=(List I)
def YU (s0 s1:List I) (s6:Int) (b0:List I):Option (((List I)×(List I)×Int×(List I))⊕(List I)):=bif decide (s6<(s0.length:Int)) then bif decide (0≤s6) then Za s0[s6.toNat]? none fun d6=>Za (KJ (s1,s6,())) none fun d7=>Za (ZH (d6,d7,())) none fun d8=>bif decide ((b0.length+[d8].length+1)*16≤lim) then some (.inl (s0,s1,IntKind.i64.wrap (s6+1),b0++[d8])) else none else none else some (.inr b0)
def ZkJ:Kf→Option (Kf⊕Qu):=fun (a,b,c,d)=>YU a b c d
def Zbo (x:Kf):Option Qu:=Zn ZkJ Zr x
def Zp4 (a0 a1:List I):Option (List I):=Za (Zbo (a0,a1,0,[])) none fun d4=>some d4
def Zeq (x:((List I)×((List I)×Unit))):Option (List I):=Zp4 x.1 x.2.1
def ZaF (s1 s0:List I) (i:Nat) (b0:List I) (d:I):Option ((List I)⊕Qu):=
 Za (KJ (s1,(i:Int),())) (none) fun d7=>
  Za (ZH (d,d7,())) (none) fun d8=>
  bif decide ((b0.length+[d8].length+1)*16≤lim) then
  some (.inl (b0++[d8]))
 else none
def Zfk (s1 s0 b0:List I):Option Qu:=
 some b0
abbrev Zvu (s1 s0:List I) (i:Nat) (s:List I):Kf:=(s0,s1,(i:Int),s)
def Zfp (s1 s0 s:List I):Option Qu:=Zq (fun i s d=>ZaF s1 s0 i s d) (fun s=>Zfk s1 s0 s) 0 s0 s
theorem Zvs (s1 s0 s:List I) (hl:s0.length<9223372036854775807):Zbo (s0,s1,0,s)=Zfp s1 s0 s:=by
 unfold Zbo Zfp
 refine Zs s0 (Zvu s1 s0) _ _ ?_ ?_ s (by unfold Zr;omega)
 ·intro i s d hi hd
  have e1:decide ((i:Int)<(s0.length:Int))=true:=dT0 (by omega)
  have e2:decide (0≤(i:Int))=true:=dT0 (by omega)
  have e3:Int.toNat (i:Int)=i:=tN0 i
  have e4:=Zu hi (Nat.le_of_lt hl)
  show YU (s0) (s1) ((i:Int)) (s)=upd _ (ZaF s1 s0 i s d)
  unfold YU ZaF
  simp only [e1,e2,e3,e4,hd,cond_true,cond_false,Zc,ZD,ZG,ZE,ZK,ZL,ZF]
 ·intro s
  have e1:decide ((s0.length:Int)<(s0.length:Int))=false:=dF0 (by omega)
  show YU (s0) (s1) ((s0.length:Int)) (s)=_
  unfold YU Zfk
  rw [e1]
  rfl
abbrev JW:=((List I)×(List I)×(List Int)×Int×(List I))
abbrev Qj:=(List I)
def Ya (s0 s1:List I) (s2:List Int) (s8:Int) (b0:List I):Option (((List I)×(List I)×(List Int)×Int×(List I))⊕(List I)):=bif decide (s8<(s0.length:Int)) then bif decide (0≤s8) then Za s0[s8.toNat]? none fun d7=>Za (KJ (s1,s8,())) none fun d8=>Za (ZcY (d7,d8,s2,())) none fun d9=>bif decide ((b0.length+[d9].length+1)*16≤lim) then some (.inl (s0,s1,s2,IntKind.i64.wrap (s8+1),b0++[d9])) else none else none else some (.inr b0)
def Zkc:JW→Option (JW⊕Qj):=fun (a,b,c,d,e)=>Ya a b c d e
def ZaA (x:JW):Option Qj:=Zn Zkc Zr x
def Zn8 (a0 a1:List I) (a2:List Int):Option (List I):=Za (ZaA (a0,a1,a2,0,[])) none fun d5=>some d5
def ZcR (x:((List I)×((List I)×((List Int)×Unit)))):Option (List I):=Zn8 x.1 x.2.1 x.2.2.1
def WE (s1:List I) (s2:List Int) (s0:List I) (i:Nat) (b0:List I) (d:I):Option ((List I)⊕Qj):=
 Za (KJ (s1,(i:Int),())) (none) fun d8=>
  Za (ZcY (d,d8,s2,())) (none) fun d9=>
  bif decide ((b0.length+[d9].length+1)*16≤lim) then
  some (.inl (b0++[d9]))
 else none
def Zd1 (s1:List I) (s2:List Int) (s0 b0:List I):Option Qj:=
 some b0
abbrev Ztv (s1:List I) (s2:List Int) (s0:List I) (i:Nat) (s:List I):JW:=(s0,s1,s2,(i:Int),s)
def Zd4 (s1:List I) (s2:List Int) (s0 s:List I):Option Qj:=Zq (fun i s d=>WE s1 s2 s0 i s d) (fun s=>Zd1 s1 s2 s0 s) 0 s0 s
theorem Zts (s1:List I) (s2:List Int) (s0 s:List I) (hl:s0.length<9223372036854775807):ZaA (s0,s1,s2,0,s)=Zd4 s1 s2 s0 s:=by
 unfold ZaA Zd4
 refine Zs s0 (Ztv s1 s2 s0) _ _ ?_ ?_ s (by unfold Zr;omega)
 ·intro i s d hi hd
  have e1:decide ((i:Int)<(s0.length:Int))=true:=dT0 (by omega)
  have e2:decide (0≤(i:Int))=true:=dT0 (by omega)
  have e3:Int.toNat (i:Int)=i:=tN0 i
  have e4:=Zu hi (Nat.le_of_lt hl)
  show Ya (s0) (s1) (s2) ((i:Int)) (s)=upd _ (WE s1 s2 s0 i s d)
  unfold Ya WE
  simp only [e1,e2,e3,e4,hd,cond_true,cond_false,Zc,ZD,ZG,ZE,ZK,ZL,ZF]
 ·intro s
  have e1:decide ((s0.length:Int)<(s0.length:Int))=false:=dF0 (by omega)
  show Ya (s0) (s1) (s2) ((s0.length:Int)) (s)=_
  unfold Ya Zd1
  rw [e1]
  rfl
def rowAt (b:List I) (i:Nat):I:=(b[i]?).getD nn
def zipI (f:I→I→I) (a b:List I):List I:=a.mapIdx fun i d=>f d (rowAt b i)
theorem ZGR (b:List I) (i:Nat):ZGy b (i:Int)=some (rowAt b i):=by
 unfold ZGy rowAt
 by_cases h:i<b.length
 ·rw [dF0 (by omega),dT0 (by omega)]
  simp only [cond_false,cond_true,tN0,List.getElem?_eq_getElem h,Zc]
  rfl
 ·have e:b[i]? = none:=List.getElem?_eq_none (by omega)
  rw [dT0 (by omega),e];rfl
theorem Zvq (b:List I) (i:Nat):ZoI b (i:Int)=some (rowAt b i):=by
 unfold ZoI rowAt
 by_cases h:i<b.length
 ·rw [dT0 (by omega),dT0 (by omega)]
  simp only [cond_true,tN0,List.getElem?_eq_getElem h,Zc]
  rfl
 ·have e:b[i]? = none:=List.getElem?_eq_none (by omega)
  rw [dF0 (by omega),e];rfl
theorem ZpU {Y:Type} {f:Nat→List I→I→Option (List I⊕Y)} {fin:List I→Option Y} {F:I→I→I} {b:List I} (h:∀ j s d,s.length≤1000→f j s d=some (.inl (s++[F d (rowAt b j)]))) :
  ∀ (l:List I) (j:Nat) (s:List I),s.length+l.length≤1000→Zq f fin j l s=fin (s++l.mapIdx fun i d=>F d (rowAt b (j+i)))
 | [],j,s,_=>by simp [Zq]
 | d::r,j,s,hs=>by
  rw [List.length_cons] at hs
  rw [QB (h j s d (by omega)),ZpU h r (j+1) (s++[F d (rowAt b j)]) (by rw [List.length_append];simp;omega),List.mapIdx_cons,List.append_assoc]
  simp only [List.singleton_append,Nat.add_zero]
  congr 4
  funext i d
  rw [show j+1+i=j+(i+1) by omega]
theorem ZDk {n:Nat} (h:n≤1000):decide ((n+1+1)*16≤lim)=true:=dT0 (by unfold lim;omega)
theorem Zsp (a b:List I) (ha:a.length≤1000):Zr5 a b=some (zipI Zl a b):=by
 unfold Zr5
 rw [ZwX b a [] (by omega)]
 unfold Zgx
 rw [ZpU (F:=Zl) (b:=b) (fun j s d hs=>?_) a 0 [] (by simpa using ha)]
 ·simp only [Zgj,Zc,List.nil_append,Nat.zero_add];rfl
 ·unfold ZbD ZcU ZM
  simp only [ZGR,Vo,Zc,List.length_cons,List.length_nil,Nat.zero_add,ZDk hs,cond_true]
theorem Zqb (a b:List I) (ha:a.length≤1000):Zp4 a b=some (zipI rJoin a b):=by
 unfold Zp4
 rw [Zvs b a [] (by omega)]
 unfold Zfp
 rw [ZpU (F:=rJoin) (b:=b) (fun j s d hs=>?_) a 0 [] (by simpa using ha)]
 ·simp only [Zfk,Zc,List.nil_append,Nat.zero_add];rfl
 ·unfold ZaF KJ ZH
  simp only [Zvq,KK,Zc,List.length_cons,List.length_nil,Nat.zero_add,ZDk hs,cond_true]
theorem Zsq (a b:List I) (st:List Int) (hst:st.length<9223372036854775807) (ha:a.length≤1000):Zr6 a b st=some (zipI (widF st) a b):=by
 unfold Zr6
 rw [ZwY b st a [] (by omega)]
 unfold Zgy
 rw [ZpU (F:=widF st) (b:=b) (fun j s d hs=>?_) a 0 [] (by simpa using ha)]
 ·simp only [Zgk,Zc,List.nil_append,Nat.zero_add];rfl
 ·unfold ZbE ZcU ZcM
  simp only [ZGR,ZFK _ _ _ hst,Zc,List.length_cons,List.length_nil,Nat.zero_add,ZDk hs,cond_true]
  rfl
def rwidF (st:List Int) (o n:I):I:=rwidV o n st
theorem Zoi (a b:List I) (st:List Int) (hst:st.length<9223372036854775807) (ha:a.length≤1000):Zn8 a b st=some (zipI (rwidF st) a b):=by
 unfold Zn8
 rw [Zts b st a [] (by omega)]
 unfold Zd4
 rw [ZpU (F:=rwidF st) (b:=b) (fun j s d hs=>?_) a 0 [] (by simpa using ha)]
 ·simp only [Zd1,Zc,List.nil_append,Nat.zero_add];rfl
 ·unfold WE KJ ZcY
  simp only [Zvq,ZDu _ _ _ hst,Zc,List.length_cons,List.length_nil,Nat.zero_add,ZDk hs,cond_true]
  rfl
theorem ZO0 {F G:I→I→I} {a b:List I} (h:∀ x y,isB x=true→isB y=true→F x y=G x y) (ha:∀ x∈a,isB x=true) (hb:∀ x∈b,isB x=true):zipI F a b=zipI G a b:=by
 unfold zipI
 apply List.ext_getElem?
 intro i
 simp only [List.getElem?_mapIdx]
 cases e:a[i]? with
 | none=>rfl
 | some d=>
  simp only [Option.map_some]
  rw [h d _ (ha d (mG0 e))]
  unfold rowAt
  cases e2:b[i]? with
  | none=>rfl
  | some y=>exact hb y (mG0 e2)
theorem ZrG (F:I→I→I) (a b:List I):(zipI F a b).length=a.length:=by simp [zipI]
theorem ZO1 {F:I→I→I} (h:∀ x y,isB x=true∧Zd x=false→isB y=true→isB (F x y)=true∧Zd (F x y)=false) {a b:List I} (ha:∀ x∈a,isB x=true∧Zd x=false) (hb:∀ x∈b,isB x=true) :
  ∀ x∈zipI F a b,isB x=true∧Zd x=false:=fun x hx=>by
 unfold zipI at hx
 rw [List.mem_mapIdx] at hx
 obtain ⟨i,hi,rfl⟩:=hx
 refine h _ _ (ha _ (List.getElem_mem hi)) ?_
 unfold rowAt
 cases e2:b[i]? with
 | none=>rfl
 | some y=>exact hb y (mG0 e2)
def ZIK:List Sh:=[.dat tE]
def ZL3:List Con:=[⟨173,Zco,ZhR⟩]
def Zr4 (a0:E):Option E:=bif decide (((List.length (α:=I) [])+List.length a0.2.1+1)*16≤lim) then bif decide (((List.length (α:=I) [])+List.length a0.2.2.1+1)*16≤lim) then bif decide (((List.length (α:=I) [])+List.length a0.2.2.2.1+1)*16≤lim) then some (a0.1,[]++a0.2.1,[]++a0.2.2.1,[]++a0.2.2.2.1,a0.2.2.2.2.1,a0.2.2.2.2.2) else none else none else none
def Zja (x:E×Unit):Option E:=Zr4 x.1
def ZvL:=conP true ZIK (.dat tE) Zja
theorem ZJP:Zg Tryz.prog 156 ZvL:=Ze (calU ZL3 [] 40 1048576 8 156) true (by rfl) (by rfl) (fun x r e=>(Zk _ _ _ _ _ _ _).trans ((show _=Zja x by kernel_rfl).trans e)) (.inl rfl)
def ZLl:List Sh:=[.dat (.sl (.int .i64))]
def Zo8:Nat→List Nat:=fun c=>bif c.beq 0 then [3,13,14,15] else [3]
def ZDS:List Con:=[]
def ZdE:StS:=⟨[(3,.int .i64),(13,.sl (.int .i64)),(14,.int .i64),(15,.int .i64)],[],0⟩
def HU:StS:=⟨[(3,.int .i64)],[],0⟩
abbrev WR:=(Int×(List Int)×Int×Int)
def Zx5:StD ZdE→WR:=fun ((a,b,c,d,_),_)=>(a,b,c,d)
def ZzN:WR→StD ZdE:=fun (a,b,c,d)=>((a,b,c,d,()),())
abbrev Zbr:=Int
def ZuC (d:StD HU):Zbr:=(d.1.1)
def Zfx (x:Zbr):StD HU:=((x,()),())
def ZzD (s3:Int) (s13:List Int) (s14 s15:Int):Option ((Int×(List Int)×Int×Int)⊕Int):=bif decide (s15<s14) then bif decide (0≤s15) then Za s13[s15.toNat]? none fun d6=>some (.inl (IntKind.i64.wrap (↑(BitVec.ofInt IntKind.i64.bits s3 &&& BitVec.ofInt IntKind.i64.bits d6).toNat:Int),s13,s14,IntKind.i64.wrap (s15+1))) else none else some (.inr s3)
def ZmR:WR→Option (WR⊕Zbr):=fun (a,b,c,d)=>ZzD a b c d
def Zne (x:WR):Option Zbr:=Zn ZmR Zr x
def ZqG:Nat→Tm→Prog (Nat×Tm):=(varP 0 (fun T h=>(rdS ZdE T h).map Zx5) Zne (altE 2 HU Zfx) (fun _ _=>.fail))
def ZC7:Lpc:=⟨128,0,24,(fun base T=>.norm base (Zo8 0) T (ZqG base)),by kernel_rfl,by kernel_rfl,(loopU ZDS [] 40 1048576 8 (keep:=Zo8) (q:=ZqG) (by kernel_rfl) (ZA (s:=ZdE) (un:=ZzN) (by rfl) (fun _=>rfl) (Zp (s:=HU) (un:=Zfx) (flat:=ZuC) (by rfl) (fun _=>rfl)) (step:=ZmR) (fun _=>by kernel_rfl) (fun _ _ e=>⟨_,e⟩) (Zo 2 HU Zfx) (ZI.fail _ _)))⟩
def ZPj (a0:List Int):Option Int:=bif (a0.length:Int)==0 then some 0 else Za a0[Int.toNat (0:Int)]? none fun d3=>bif decide ((0:Int)≤1∧1≤(a0.length:Int)∧(a0.length:Int)≤(a0.length:Int)) then Za (Zne (d3,List.drop (Int.toNat 1) (List.take (a0.length:Int).toNat a0),(↑(List.drop (Int.toNat 1) (List.take (a0.length:Int).toNat a0)).length:Int),0)) none fun d4=>some d4 else none
def ZFn (x:(List Int)×Unit):Option Int:=ZPj x.1
def ZkN:=conP true ZLl (.dat (.int .i64)) ZFn
theorem Zqd:Zg Tryz.prog 128 ZkN:=Ze (calU ZDS [ZC7] 40 1048576 8 128) true (by rfl) (by rfl) (fun x r e=>(Zk _ _ _ _ _ _ _).trans ((show _=ZFn x by kernel_rfl).trans e)) (.inl rfl)
def ZLj:List Sh:=[.dat (.sl (.int .i64))]
def Zo7:Nat→List Nat:=fun c=>bif c.beq 0 then [3,6,7,8] else [3]
def ZDQ:List Con:=[]
def ZdC:StS:=⟨[(3,.int .i64),(6,.sl (.int .i64)),(7,.int .i64),(8,.int .i64)],[],0⟩
def HS:StS:=⟨[(3,.int .i64)],[],0⟩
abbrev WP:=(Int×(List Int)×Int×Int)
def Zx3:StD ZdC→WP:=fun ((a,b,c,d,_),_)=>(a,b,c,d)
def ZzL:WP→StD ZdC:=fun (a,b,c,d)=>((a,b,c,d,()),())
abbrev Zbp:=Int
def ZuA (d:StD HS):Zbp:=(d.1.1)
def Zfv (x:Zbp):StD HS:=((x,()),())
def ZzC (s3:Int) (s6:List Int) (s7 s8:Int):Option ((Int×(List Int)×Int×Int)⊕Int):=bif decide (s8<s7) then bif decide (0≤s8) then Za s6[s8.toNat]? none fun d6=>some (.inl (IntKind.i64.wrap (↑(BitVec.ofInt IntKind.i64.bits s3 ||| BitVec.ofInt IntKind.i64.bits d6).toNat:Int),s6,s7,IntKind.i64.wrap (s8+1))) else none else some (.inr s3)
def ZmQ:WP→Option (WP⊕Zbp):=fun (a,b,c,d)=>ZzC a b c d
def Znd (x:WP):Option Zbp:=Zn ZmQ Zr x
def ZqE:Nat→Tm→Prog (Nat×Tm):=(varP 0 (fun T h=>(rdS ZdC T h).map Zx3) Znd (altE 2 HS Zfv) (fun _ _=>.fail))
def ZC5:Lpc:=⟨192,0,17,(fun base T=>.norm base (Zo7 0) T (ZqE base)),by kernel_rfl,by kernel_rfl,(loopU ZDQ [] 40 1048576 8 (keep:=Zo7) (q:=ZqE) (by kernel_rfl) (ZA (s:=ZdC) (un:=ZzL) (by rfl) (fun _=>rfl) (Zp (s:=HS) (un:=Zfv) (flat:=ZuA) (by rfl) (fun _=>rfl)) (step:=ZmQ) (fun _=>by kernel_rfl) (fun _ _ e=>⟨_,e⟩) (Zo 2 HS Zfv) (ZI.fail _ _)))⟩
def ZPi (a0:List Int):Option Int:=Za (Znd (0,a0,(a0.length:Int),0)) none fun d3=>some d3
def ZFm (x:(List Int)×Unit):Option Int:=ZPi x.1
def ZpW:=conP true ZLj (.dat (.int .i64)) ZFm
theorem ZAz:Zg Tryz.prog 192 ZpW:=Ze (calU ZDQ [ZC5] 40 1048576 8 192) true (by rfl) (by rfl) (fun x r e=>(Zk _ _ _ _ _ _ _).trans ((show _=ZFm x by kernel_rfl).trans e)) (.inl rfl)
abbrev Zul:Type:=((List E)×Int×Int×Bool×Int×Int×Bool×(List I)×(List I)×(List I)×Int×Int)
def ZMA:List Sh:=[.dat (.sl tE)]
def Zkl:Nat→List Nat:=fun c=>bif c.beq 0 then [2,3,7,8,9] else [2,3]
def ZFY:List Con:=[⟨156,ZvL,ZJP⟩,⟨191,(pickS (isClo 2 158) ZnT ZnU),(Zg.pick (isClo 2 158) Zxi Zxj)⟩,⟨128,ZkN,Zqd⟩,⟨192,ZpW,ZAz⟩]
def Ze3:StS:=⟨[(2,.ptr 0 0),(3,.ptr 1 0),(7,.sl tE),(8,.int .i64),(9,.int .i64)],[(0,.box [.bool,.nil,.nil,.nil,.int .i64,.int .i64]),(1,.box [.bool,.sl tI,.sl tI,.sl tI,.int .i64,.int .i64])],2⟩
def Wa:StS:=⟨[(2,.ptr 0 0),(3,.ptr 1 0)],[(0,.box [.bool,.nil,.nil,.nil,.int .i64,.int .i64]),(1,.box [.bool,.sl tI,.sl tI,.sl tI,.int .i64,.int .i64])],2⟩
abbrev Hr:=Zul
def ZAY:StD Ze3→Hr:=fun ((_,_,a,b,c,_),((d,_,_,_,e,f,_),(g,h,i,j,k,l,_),_))=>(a,b,c,d,e,f,g,h,i,j,k,l)
def ZB5:Hr→StD Ze3:=fun (a,b,c,d,e,f,g,h,i,j,k,l)=>(((),(),a,b,c,()),((d,(),(),(),e,f,()),(g,h,i,j,k,l,()),()))
abbrev JB:=(Bool×Int×Int×Bool×(List I)×(List I)×(List I)×Int×Int)
def Zv7:StD Wa→JB:=fun ((_,_,_),((a,_,_,_,b,c,_),(d,e,f,g,h,i,_),_))=>(a,b,c,d,e,f,g,h,i)
def ZgM:JB→StD Wa:=fun (a,b,c,d,e,f,g,h,i)=>(((),(),()),((a,(),(),(),b,c,()),(d,e,f,g,h,i,()),()))
def W5 (s7:List E) (s8 s9:Int) (b0:Bool) (b0_1 b0_2:Int) (b1:Bool) (b1_1 b1_2 b1_3:List I) (b1_4 b1_5:Int):Option (Zul⊕(Bool×Int×Int×Bool×(List I)×(List I)×(List I)×Int×Int)):=bif decide (s9<s8) then bif decide (0≤s9) then Za s7[s9.toNat]? none fun d14=>bif !d14.1 then some (.inl (s7,s8,IntKind.i64.wrap (s9+1),b0,b0_1,b0_2,b1,b1_1,b1_2,b1_3,b1_4,b1_5)) else bif !b1 then Za (Zja (d14,())) none fun d15=>some (.inl (s7,s8,IntKind.i64.wrap (s9+1),b0,b0_1,b0_2,d15.1,d15.2.1,d15.2.2.1,d15.2.2.2.1,d15.2.2.2.2.1,d15.2.2.2.2.2)) else Za (Vp (b1_1,d14.2.1,((),()),())) none fun d15=>Za (Vp (b1_2,d14.2.2.1,((),()),())) none fun d16=>Za (Vp (b1_3,d14.2.2.2.1,((),()),())) none fun d17=>some (.inl (s7,s8,IntKind.i64.wrap (s9+1),b0,b0_1,b0_2,true,d15,d16,d17,IntKind.i64.wrap (↑(BitVec.ofInt IntKind.i64.bits b1_4 &&& BitVec.ofInt IntKind.i64.bits d14.2.2.2.2.1).toNat:Int),IntKind.i64.wrap (↑(BitVec.ofInt IntKind.i64.bits (IntKind.i64.wrap (↑(BitVec.ofInt IntKind.i64.bits 0 ||| BitVec.ofInt IntKind.i64.bits b1_5).toNat:Int)) ||| BitVec.ofInt IntKind.i64.bits d14.2.2.2.2.2).toNat:Int))) else none else some (.inr (b0,b0_1,b0_2,b1,b1_1,b1_2,b1_3,b1_4,b1_5))
def ZnG:Hr→Option (Hr⊕JB):=fun (a,b,c,d,e,f,g,h,i,j,k,l)=>W5 a b c d e f g h i j k l
def ZeC (x:Hr):Option JB:=Zn ZnG Zr x
def ZsA:Nat→Tm→Prog (Nat×Tm):=(varP 0 (fun T h=>(rdS Ze3 T h).map ZAY) ZeC (altE 2 Wa ZgM) (fun _ _=>.fail))
def ZEO:Lpc:=⟨112,0,28,(unP [(1,[(1,tI)]),(1,[(2,tI)]),(1,[(3,tI)]),(1,[(1,tI)]),(1,[(2,tI)]),(1,[(3,tI)])] [] (Zkl 0) (fun base T=>.norm base (Zkl 0) T (ZsA base))),by kernel_rfl,by kernel_rfl,(ZU0 (loopU ZFY [] 40 1048576 8 (keep:=Zkl) (q:=ZsA) (by kernel_rfl) (ZA (s:=Ze3) (un:=ZB5) (by rfl) (fun _=>rfl) (Zp (s:=Wa) (un:=ZgM) (flat:=Zv7) (by rfl) (fun _=>rfl)) (step:=ZnG) (fun _=>by kernel_rfl) (fun _ _ e=>⟨_,e⟩) (Zo 2 Wa ZgM) (ZI.fail _ _))))⟩
def Zyv (a0:List E):Option E:=Za (ZeC (a0,(a0.length:Int),0,false,0,0,false,[],[],[],0,0)) none fun d3=>some (d3.2.2.2.1,d3.2.2.2.2.1,d3.2.2.2.2.2.1,d3.2.2.2.2.2.2.1,d3.2.2.2.2.2.2.2.1,d3.2.2.2.2.2.2.2.2)
def Zha (x:(List E)×Unit):Option E:=Zyv x.1
def ZrN:=conP true ZMA (.dat tE) Zha
theorem ZDJ:Zg Tryz.prog 112 ZrN:=Ze (calU ZFY [ZEO] 40 1048576 8 112) true (by rfl) (by rfl) (fun x r e=>(Zk _ _ _ _ _ _ _).trans ((show _=Zha x by kernel_rfl).trans e)) (.inl rfl)
def Zdv (b0:Bool) (b0_1 b0_2:Int) (s7:List E) (i:Nat) (b1:Bool) (b1_1 b1_2 b1_3:List I) (b1_4 b1_5:Int) (d:E):Option ((Bool×(List I)×(List I)×(List I)×Int×Int)⊕JB):=
 bif !d.1 then
  some (.inl (b1,b1_1,b1_2,b1_3,b1_4,b1_5))
 else bif !b1 then
  Za (Zja (d,())) (none) fun d15=>
  some (.inl (d15.1,d15.2.1,d15.2.2.1,d15.2.2.2.1,d15.2.2.2.2.1,d15.2.2.2.2.2))
 else Za (Vp (b1_1,d.2.1,((),()),())) (none) fun d15=>
  Za (Vp (b1_2,d.2.2.1,((),()),())) (none) fun d16=>
  Za (Vp (b1_3,d.2.2.2.1,((),()),())) (none) fun d17=>
  some (.inl (true,d15,d16,d17,IntKind.i64.wrap (↑(BitVec.ofInt IntKind.i64.bits b1_4 &&& BitVec.ofInt IntKind.i64.bits d.2.2.2.2.1).toNat:Int),IntKind.i64.wrap (↑(BitVec.ofInt IntKind.i64.bits (IntKind.i64.wrap (↑(BitVec.ofInt IntKind.i64.bits 0 ||| BitVec.ofInt IntKind.i64.bits b1_5).toNat:Int)) ||| BitVec.ofInt IntKind.i64.bits d.2.2.2.2.2).toNat:Int)))
def Zip (b0:Bool) (b0_1 b0_2:Int) (s7:List E) (b1:Bool) (b1_1 b1_2 b1_3:List I) (b1_4 b1_5:Int):Option JB:=
 some (b0,b0_1,b0_2,b1,b1_1,b1_2,b1_3,b1_4,b1_5)
abbrev ZBN (b0:Bool) (b0_1 b0_2:Int) (s7:List E) (i:Nat) (s:Bool×(List I)×(List I)×(List I)×Int×Int):Hr:=(s7,(s7.length:Int),(i:Int),b0,b0_1,b0_2,s.1,s.2.1,s.2.2.1,s.2.2.2.1,s.2.2.2.2.1,s.2.2.2.2.2)
def ZiE (b0:Bool) (b0_1 b0_2:Int) (s7:List E) (s:Bool×(List I)×(List I)×(List I)×Int×Int):Option JB:=Zq (fun i s d=>Zdv b0 b0_1 b0_2 s7 i s.1 s.2.1 s.2.2.1 s.2.2.2.1 s.2.2.2.2.1 s.2.2.2.2.2 d) (fun s=>Zip b0 b0_1 b0_2 s7 s.1 s.2.1 s.2.2.1 s.2.2.2.1 s.2.2.2.2.1 s.2.2.2.2.2) 0 s7 s
theorem ZBC (b0:Bool) (b0_1 b0_2:Int) (s7:List E) (s:Bool×(List I)×(List I)×(List I)×Int×Int) (hl:s7.length<9223372036854775807):ZeC (s7,(s7.length:Int),0,b0,b0_1,b0_2,s.1,s.2.1,s.2.2.1,s.2.2.2.1,s.2.2.2.2.1,s.2.2.2.2.2)=ZiE b0 b0_1 b0_2 s7 s:=by
 unfold ZeC ZiE
 refine Zs s7 (ZBN b0 b0_1 b0_2 s7) _ _ ?_ ?_ s (by unfold Zr;omega)
 ·intro i s d hi hd
  have e1:decide ((i:Int)<(s7.length:Int))=true:=dT0 (by omega)
  have e2:decide (0≤(i:Int))=true:=dT0 (by omega)
  have e3:Int.toNat (i:Int)=i:=tN0 i
  have e4:=Zu hi (Nat.le_of_lt hl)
  show W5 (s7) ((s7.length:Int)) ((i:Int)) (b0) (b0_1) (b0_2) (s.1) (s.2.1) (s.2.2.1) (s.2.2.2.1) (s.2.2.2.2.1) (s.2.2.2.2.2)=upd _ (Zdv b0 b0_1 b0_2 s7 i s.1 s.2.1 s.2.2.1 s.2.2.2.1 s.2.2.2.2.1 s.2.2.2.2.2 d)
  unfold W5 Zdv
  simp only [e1,e2,e3,e4,hd,cond_true,cond_false,Zc,ZD,ZG,ZE,ZK,ZL,ZF]
 ·intro s
  have e1:decide ((s7.length:Int)<(s7.length:Int))=false:=dF0 (by omega)
  show W5 (s7) ((s7.length:Int)) ((s7.length:Int)) (b0) (b0_1) (b0_2) (s.1) (s.2.1) (s.2.2.1) (s.2.2.2.1) (s.2.2.2.2.1) (s.2.2.2.2.2)=_
  unfold W5 Zip
  rw [e1]
  rfl
def ZLg:List Sh:=[.dat tE,.dat tE,.dat (.sl (.int .i64))]
def ZOD:List Con:=[⟨112,ZrN,ZDJ⟩,⟨191,(pickS (isClo 2 158) ZnT ZnU),(Zg.pick (isClo 2 158) Zxi Zxj)⟩,⟨128,ZkN,Zqd⟩,⟨192,ZpW,ZAz⟩,⟨109,ZkP,Zqf⟩]
def Zu7 (a0 a1:E) (a2:List Int):Option E:=bif !a0.1 then Za (Zha ([a1,a0],())) none fun d4=>some (d4.1,d4.2.1,d4.2.2.1,d4.2.2.2.1,d4.2.2.2.2.1,d4.2.2.2.2.2) else bif !a1.1 then Za (Zha ([a1,a0],())) none fun d4=>some (d4.1,d4.2.1,d4.2.2.1,d4.2.2.2.1,d4.2.2.2.2.1,d4.2.2.2.2.2) else Za (Zgf (a0.2.1,a1.2.1,((),(a2,()),()),())) none fun d4=>Za (Zgf (a0.2.2.1,a1.2.2.1,((),(a2,()),()),())) none fun d5=>Za (Zgf (a0.2.2.2.1,a1.2.2.2.1,((),(a2,()),()),())) none fun d6=>some (true,d4,d5,d6,IntKind.i64.wrap (↑(BitVec.ofInt IntKind.i64.bits a0.2.2.2.2.1 &&& BitVec.ofInt IntKind.i64.bits a1.2.2.2.2.1).toNat:Int),IntKind.i64.wrap (↑(BitVec.ofInt IntKind.i64.bits (IntKind.i64.wrap (↑(BitVec.ofInt IntKind.i64.bits 0 ||| BitVec.ofInt IntKind.i64.bits a0.2.2.2.2.2).toNat:Int)) ||| BitVec.ofInt IntKind.i64.bits a1.2.2.2.2.2).toNat:Int))
def Zox (x:(E×(E×((List Int)×Unit)))):Option E:=Zu7 x.1 x.2.1 x.2.2.1
def ZAf:=conP true ZLg (.dat tE) Zox
theorem ZLQ:Zg Tryz.prog 113 ZAf:=Ze (calU ZOD [] 40 1048576 8 113) true (by rfl) (by rfl) (fun x r e=>(Zk _ _ _ _ _ _ _).trans ((show _=Zox x by kernel_rfl).trans e)) (.inl rfl)
def Zmp (a0 a1:E):Option E:=bif !a1.1 then bif !a0.1 then some ((false,[],[],[],0,0):E) else some (a0.1,a0.2.1,a0.2.2.1,a0.2.2.2.1,a0.2.2.2.2.1,a0.2.2.2.2.2) else bif !a0.1 then some (a1.1,a1.2.1,a1.2.2.1,a1.2.2.2.1,a1.2.2.2.2.1,a1.2.2.2.2.2) else Za (Zeq (a0.2.1,a1.2.1,())) none fun d3=>Za (Zeq (a0.2.2.1,a1.2.2.1,())) none fun d4=>Za (Zeq (a0.2.2.2.1,a1.2.2.2.1,())) none fun d5=>some (true,d3,d4,d5,IntKind.i64.wrap (↑(BitVec.ofInt IntKind.i64.bits a0.2.2.2.2.1 &&& BitVec.ofInt IntKind.i64.bits a1.2.2.2.2.1).toNat:Int),IntKind.i64.wrap (↑(BitVec.ofInt IntKind.i64.bits a0.2.2.2.2.2 ||| BitVec.ofInt IntKind.i64.bits a1.2.2.2.2.2).toNat:Int))
def ZcV (x:E×(E×Unit)):Option E:=Zmp x.1 x.2.1
def ZkS (a0 a1:E) (a2:List Int):Option E:=bif !a0.1 then Za (ZcV (a0,a1,())) none fun d4=>some (d4.1,d4.2.1,d4.2.2.1,d4.2.2.2.1,d4.2.2.2.2.1,d4.2.2.2.2.2) else bif !a1.1 then Za (ZcV (a0,a1,())) none fun d4=>some (d4.1,d4.2.1,d4.2.2.1,d4.2.2.2.1,d4.2.2.2.2.1,d4.2.2.2.2.2) else Za (ZcR (a0.2.1,a1.2.1,a2,())) none fun d4=>Za (ZcR (a0.2.2.1,a1.2.2.1,a2,())) none fun d5=>Za (ZcR (a0.2.2.2.1,a1.2.2.2.1,a2,())) none fun d6=>some (true,d4,d5,d6,IntKind.i64.wrap (↑(BitVec.ofInt IntKind.i64.bits a0.2.2.2.2.1 &&& BitVec.ofInt IntKind.i64.bits a1.2.2.2.2.1).toNat:Int),IntKind.i64.wrap (↑(BitVec.ofInt IntKind.i64.bits a0.2.2.2.2.2 ||| BitVec.ofInt IntKind.i64.bits a1.2.2.2.2.2).toNat:Int))
def ZkL (x:(E×(E×((List Int)×Unit)))):Option E:=ZkS x.1 x.2.1 x.2.2.1
def andI (a b:Int):Int:=IntKind.i64.wrap ((BitVec.ofInt IntKind.i64.bits a &&& BitVec.ofInt IntKind.i64.bits b).toNat:Int)
def orI (a b:Int):Int:=IntKind.i64.wrap ((BitVec.ofInt IntKind.i64.bits a ||| BitVec.ofInt IntKind.i64.bits b).toNat:Int)
def mrg (F:I→I→I) (a b:E):E:=(true,zipI F a.2.1 b.2.1,zipI F a.2.2.1 b.2.2.1,zipI F a.2.2.2.1 b.2.2.2.1,andI a.2.2.2.2.1 b.2.2.2.2.1,orI a.2.2.2.2.2 b.2.2.2.2.2)
def eJoin (F:I→I→I) (a b:E):E:=bif a.1 then (bif b.1 then mrg F a b else a) else bif b.1 then b else Zf
def szE (e:E):Prop:=e.2.1.length≤1000∧e.2.2.1.length≤1000∧e.2.2.2.1.length≤1000
theorem ZUp {n:Nat} (h:n≤1000):decide ((0+n+1)*16≤lim)=true:=dT0 (by unfold lim;omega)
theorem ZDn {e:E} (h:szE e):Zr4 e=some e:=by
 unfold Zr4
 simp only [List.length_nil,ZUp h.1,ZUp h.2.1,ZUp h.2.2,cond_true,List.nil_append]
theorem ZHW {a b:E} (ha:szE a) (hb:szE b):Zyv [a,b]=some (eJoin Zl a b):=by
 unfold Zyv
 have:=ZBC false 0 0 [a,b] (false,[],[],[],0,0) (by simp)
 rw [this]
 unfold ZiE eJoin
 obtain ⟨on,V,G,A,must,may⟩:=a
 obtain ⟨on',V',G',A',must',may'⟩:=b
 have j1:=Zsp V V' ha.1
 have j2:=Zsp G G' ha.2.1
 have j3:=Zsp A A' ha.2.2
 cases on<;>cases on'<;>simp only [Zq,Zdv,Zip,Bool.not_false,Bool.not_true,cond_true,cond_false,Zja,ZDn ha,ZDn hb,Vp,j1,j2,j3,Zc]
 all_goals first | rfl | simp only [mrg,andI,orI,ZN1]
theorem ZDq {a b:E} (ha:szE a):Zmp a b=some (eJoin rJoin a b):=by
 unfold Zmp eJoin
 obtain ⟨on,V,G,A,must,may⟩:=a
 obtain ⟨on',V',G',A',must',may'⟩:=b
 cases on<;>cases on'<;>simp only [Bool.not_false,Bool.not_true,cond_true,cond_false,Zeq,Zqb _ _ ha.1,Zqb _ _ ha.2.1,Zqb _ _ ha.2.2,Zc]
 ·rfl
 ·rfl
theorem ZPq {a b:E} {st:List Int} (hst:st.length<9223372036854775807) (ha:szE a) (hb:szE b):Zu7 a b st=some (eJoin (widF st) a b):=by
 unfold Zu7 Zha
 rw [ZHW hb ha]
 unfold eJoin
 obtain ⟨on,V,G,A,must,may⟩:=a
 obtain ⟨on',V',G',A',must',may'⟩:=b
 cases on<;>cases on'<;>simp only [Bool.not_false,Bool.not_true,cond_true,cond_false,Zgf,Zsq _ _ _ hst ha.1,Zsq _ _ _ hst ha.2.1,Zsq _ _ _ hst ha.2.2,Zc]
 simp only [mrg,andI,orI,ZN1]
theorem ZLK {a b:E} {st:List Int} (hst:st.length<9223372036854775807) (ha:szE a):ZkS a b st=some (eJoin (rwidF st) a b):=by
 unfold ZkS ZcV
 rw [ZDq ha]
 unfold eJoin
 obtain ⟨on,V,G,A,must,may⟩:=a
 obtain ⟨on',V',G',A',must',may'⟩:=b
 cases on<;>cases on'<;>simp only [Bool.not_false,Bool.not_true,cond_true,cond_false,ZcR,Zoi _ _ _ hst ha.1,Zoi _ _ _ hst ha.2.1,Zoi _ _ _ hst ha.2.2,Zc]
 simp only [mrg,andI,orI]
structure okA (e:En):Prop where
 v:isB (vl e)=true
 h:0≤e.2.2.2.1∧e.2.2.2.1<2147483648
theorem entOK.a {e:En} (h:entOK e):okA e:=⟨h.v,h.h⟩
def okF (f:I→I→I):Prop:=∀ u v,isB u=true→Zd u=false→isB v=true→Zd v=false→isB (f u v)=true∧Zd (f u v)=false
theorem ZN2:okF Zl:=fun u v hu eu hv ev=>⟨by rw [Zav hv];exact Zhv hu hv,by rw [ZGD,eu];rfl⟩
theorem ZTy {f:I→I→I} (hf:okF f) {l:List En} {e:En} (hl:∀ x∈l,entOK x) (he:okA e):∀ x∈stpT f l e,entOK x:=by
 unfold stpT
 cases hE:Zd (vl e)
 case true=>simpa using hl
 simp only [Bool.false_eq_true,if_false]
 intro x hx
 rcases ZJA hx with h | rfl | ⟨d,hd,hk,rfl⟩
 ·exact hl x h
 ·exact ⟨he.v,hE,he.h⟩
 ·have k:=hl d hd
  obtain ⟨h1,h2⟩:=hf (vl d) (vl e) k.v k.n he.v hE
  exact ⟨h1,h2,k.h⟩
theorem ZSj {f:I→I→I} (hf:okF f):∀ {es l:List En},(∀ x∈l,entOK x)→(∀ x∈es,okA x)→∀ x∈addT f l es,entOK x
 | [],l,hl,_=>hl
 | e::r,l,hl,h=>ZSj hf (es:=r) (ZTy hf hl (h e (List.mem_cons_self ..))) fun x hx=>h x (List.mem_cons_of_mem _ hx)
theorem ZKO {f g:I→I→I} (h:∀ u v,isB u=true→Zd u=false→isB v=true→Zd v=false→f u v=g u v) {e:En} (he:isB (vl e)=true) (hE:Zd (vl e)=false):∀ {l:List En},(∀ x∈l,entOK x)→pinT f e l=pinT g e l
 | [],_=>rfl
 | d::r,hl=>by
  have k:=hl d (List.mem_cons_self ..)
  unfold pinT
  rw [ZKO h he hE (l:=r) fun x hx=>hl x (List.mem_cons_of_mem _ hx),h (vl d) (vl e) k.v k.n he hE]
theorem ZKd {f g:I→I→I} (hf:okF f) (h:∀ u v,isB u=true→Zd u=false→isB v=true→Zd v=false→f u v=g u v):∀ {es l:List En},(∀ x∈l,entOK x)→(∀ x∈es,okA x)→addT f l es=addT g l es
 | [],l,_,_=>rfl
 | e::r,l,hl,k=>by
  have he:=k e (List.mem_cons_self ..)
  have hs:stpT f l e=stpT g l e:=by
   unfold stpT
   cases hE:Zd (vl e)
   ·simp only [Bool.false_eq_true,if_false];exact ZKO h he.v hE hl
   ·rfl
  show addT f (stpT f l e) r=addT g (stpT g l e) r
  rw [← hs]
  exact ZKd hf h (ZTy hf hl he) fun x hx=>k x (List.mem_cons_of_mem _ hx)
theorem ZT0 {l es:List En} (hl:∀ x∈l,entOK x) (he:∀ x∈es,okA x):addT Zl l es=addT rJoin l es:=
 ZKd ZN2 (fun u v _ _ hv _=>Zav hv) hl he
def upF (f:I→I→I):Prop:=∀ u v,isB u=true→isB v=true→leqB u (f u v)=true∧leqB v (f u v)=true
theorem Zz9:upF Zl:=fun u v _ _=>⟨ZC1 u v,ZQz u v⟩
theorem ZEx (st:List Int):upF (widF st):=fun u v hu hv=>⟨(ZAb hu hv st).1,(ZAb hu hv st).2.1⟩
theorem ZUW {l:List En} (h:∀ x∈l,entOK x) (hs:srt l):tabOK l:=ZKC (ZUj h hs)
theorem ZWk {f:I→I→I} (hf:okF f) {a b:List En} (ha:tabOK a) (hb:∀ x∈b,okA x):tabOK (addT f a b):=ZUW (ZSj hf ha.e hb) (Zrs ha.srt)
def ZxS:List Sh:=[.dat (.sl tI),.dat (.sl tI)]
def Zi6:Nat→List Nat:=fun c=>bif c.beq 0 then [0,1,12,13] else [4]
def ZnC:List Con:=[]
def Hh:StS:=⟨[(0,.sl tI),(1,.sl tI),(12,.int .i64),(13,.int .i64)],[],0⟩
def Jn:StS:=⟨[(4,.undef)],[],0⟩
def Jo:StS:=⟨[(4,.bool)],[],0⟩
abbrev Qy:=((List I)×(List I)×Int×Int)
def ZoY:StD Hh→Qy:=fun ((a,b,c,d,_),_)=>(a,b,c,d)
def ZpT:Qy→StD Hh:=fun (a,b,c,d)=>((a,b,c,d,()),())
abbrev Z3:=Unit
def Znb (d:StD Jn):Z3:=()
def WC (x:Z3):StD Jn:=(((),()),())
abbrev Z4:=Bool
def Znc (d:StD Jo):Z4:=(d.1.1)
def WD (x:Z4):StD Jo:=((x,()),())
def Jr (s0 s1:List I) (s12 s13:Int):Option (((List I)×(List I)×Int×Int)⊕(Unit⊕Bool)):=bif decide (s13<s12) then bif decide (0≤s13) then Za s0[s13.toNat]? none fun d6=>bif decide (0≤s13) then Za s1[s13.toNat]? none fun d7=>bif !(d6.1==d7.1&&d6.2==d7.2) then some (.inr (.inr false)) else some (.inl (s0,s1,s12,IntKind.i64.wrap (s13+1))) else none else none else some (.inr (.inl PUnit.unit))
def Zg8:Qy→Option (Qy⊕(Z3⊕Z4)):=fun (a,b,c,d)=>Jr a b c d
def Hc (x:Qy):Option (Z3⊕Z4):=Zn Zg8 Zr x
def ZjH:Nat→Tm→Prog (Nat×Tm):=(varP 0 (fun T h=>(rdS Hh T h).map ZoY) Hc (fun y=>.alt y (altE 2 Jn WC) (altE 1 Jo WD)) (fun _ _=>.fail))
def Zrn:Lpc:=⟨160,0,26,(fun base T=>.norm base (Zi6 0) T (ZjH base)),by kernel_rfl,by kernel_rfl,(loopU ZnC [] 40 1048576 8 (keep:=Zi6) (q:=ZjH) (by kernel_rfl) (ZA (s:=Hh) (un:=ZpT) (by rfl) (fun _=>rfl) (Qh (Zp (s:=Jn) (un:=WC) (flat:=Znb) (by rfl) (fun _=>rfl)) (Zp (s:=Jo) (un:=WD) (flat:=Znc) (by rfl) (fun _=>rfl))) (step:=Zg8) (fun _=>by kernel_rfl) (fun _ _ e=>⟨_,e⟩) (Qg (Zo 2 Jn WC) (Zo 1 Jo WD)) (ZI.fail _ _)))⟩
def Zju (a0 a1:List I):Option Bool:=bif (a0.length:Int) !=(a1.length:Int) then some false else Za (Hc (a0,a1,(a0.length:Int),0)) none fun d4=>Sum.elim (fun e5=>some true) (fun e5=>some e5) d4
def Hk (x:((List I)×((List I)×Unit))):Option Bool:=Zju x.1 x.2.1
def Zl8:=conP true ZxS (.dat .bool) Hk
theorem ZzA:Zg Tryz.prog 160 Zl8:=Ze (calU ZnC [Zrn] 40 1048576 8 160) true (by rfl) (by rfl) (fun x r e=>(Zk _ _ _ _ _ _ _).trans ((show _=Hk x by kernel_rfl).trans e)) (.inl rfl)
def Yn (s1 s0:List I) (i:Nat)  (d:I):Option (Unit⊕(Z3⊕Z4)):=
 Za s1[i]? (none) fun d7=>
  bif !(d.1==d7.1&&d.2==d7.2) then
  some (.inr (.inr false))
 else some (.inl ())
def Zg2 (s1 s0:List I):Option (Z3⊕Z4):=
 some (.inl PUnit.unit)
abbrev ZpI (s1 s0:List I) (i:Nat) (s:Unit):Qy:=(s0,s1,(s0.length:Int),(i:Int))
def Zg7 (s1 s0:List I) (s:Unit):Option (Z3⊕Z4):=Zq (fun i s d=>Yn s1 s0 i  d) (fun s=>Zg2 s1 s0 ) 0 s0 s
theorem ZpG (s1 s0:List I) (s:Unit) (hl:s0.length<9223372036854775807):Hc (s0,s1,(s0.length:Int),0)=Zg7 s1 s0 s:=by
 unfold Hc Zg7
 refine Zs s0 (ZpI s1 s0) _ _ ?_ ?_ s (by unfold Zr;omega)
 ·intro i s d hi hd
  have e1:decide ((i:Int)<(s0.length:Int))=true:=dT0 (by omega)
  have e2:decide (0≤(i:Int))=true:=dT0 (by omega)
  have e3:Int.toNat (i:Int)=i:=tN0 i
  have e4:=Zu hi (Nat.le_of_lt hl)
  show Jr (s0) (s1) ((s0.length:Int)) ((i:Int))=upd _ (Yn s1 s0 i  d)
  unfold Jr Yn
  simp only [e1,e2,e3,e4,hd,cond_true,cond_false,Zc,ZD,ZG,ZE,ZK,ZL,ZF]
 ·intro s
  have e1:decide ((s0.length:Int)<(s0.length:Int))=false:=dF0 (by omega)
  show Jr (s0) (s1) ((s0.length:Int)) ((s0.length:Int))=_
  unfold Jr Zg2
  rw [e1]
  rfl
def ZMC:List Sh:=[.dat tE,.dat tE]
def ZPJ:List Con:=[⟨160,Zl8,ZzA⟩]
def Zyw (a0 a1:E):Option Bool:=bif !a0.1 then some (a0.1==a1.1) else bif !a1.1 then some (a0.1==a1.1) else Za (Hk (a0.2.1,a1.2.1,())) none fun d3=>bif d3 then Za (Hk (a0.2.2.1,a1.2.2.1,())) none fun d4=>bif d4 then Za (Hk (a0.2.2.2.1,a1.2.2.2.1,())) none fun d5=>bif d5 then bif a0.2.2.2.2.1==a1.2.2.2.2.1 then some (a0.2.2.2.2.2==a1.2.2.2.2.2) else some false else some false else some false else some false
def ZjR (x:E×(E×Unit)):Option Bool:=Zyw x.1 x.2.1
def ZCp:=conP true ZMC (.dat .bool) ZjR
theorem ZOp:Zg Tryz.prog 114 ZCp:=Ze (calU ZPJ [] 40 1048576 8 114) true (by rfl) (by rfl) (fun x r e=>(Zk _ _ _ _ _ _ _).trans ((show _=ZjR x by kernel_rfl).trans e)) (.inl rfl)
section
open Go.Proofs
variable {u:U} {t:Int} {a b:E}
theorem Zst:∀ x y,isB x=true∧Zd x=false→isB y=true→isB (Zl x y)=true∧Zd (Zl x y)=false:=fun x y hx hy=>⟨ZJm hx.1 hy,by rw [ZGD,hx.2];rfl⟩
theorem ZJz (st:List Int):∀ x y,isB x=true∧Zd x=false→isB y=true→isB (widF st x y)=true∧Zd (widF st x y)=false:=fun x y hx hy=>by
 obtain ⟨h1,h2,h3,_⟩:=ZAb hx.1 hy st
 exact ⟨h3,(ZbQ h1 hx.2).2⟩
theorem ZW0 {x y:Int} (hx:okB x) (hy:okB y):okB (andI x y):=by
 unfold okB at *
 have h:=ZxQ (a:=x.toNat) (b:=y.toNat) (by omega) (by omega)
 have e1:((x.toNat:Nat):Int)=x:=by omega
 have e2:((y.toNat:Nat):Int)=y:=by omega
 rw [e1,e2] at h
 unfold andI
 rw [h]
 have:=Nat.and_le_left (n:=x.toNat) (m:=y.toNat)
 omega
theorem Z0i {x y:Int} (hx:okB x) (hy:okB y):okB (orI x y):=by
 unfold okB at *
 have h:=ZN4 (a:=x.toNat) (b:=y.toNat) (by omega) (by omega)
 have e1:((x.toNat:Nat):Int)=x:=by omega
 have e2:((y.toNat:Nat):Int)=y:=by omega
 rw [e1,e2] at h
 unfold orI
 rw [h]
 have:=Nat.or_lt_two_pow (x:=x.toNat) (y:=y.toNat) (n:=31) (by omega) (by omega)
 omega
theorem ZYl {F:I→I→I} (hF:∀ x y,isB x=true∧Zd x=false→isB y=true→isB (F x y)=true∧Zd (F x y)=false) (ha:envOK u t a) (hb:envOK u t b):envOK u t (mrg F a b):=
 Zv0 ha (ZrG _ _ _) (ZrG _ _ _) (ZrG _ _ _) (ZO1 hF (envV ha) fun x k=>(envV hb x k).1) (ZO1 hF (envG ha) fun x k=>(envG hb x k).1) (ZO1 hF (envA ha) fun x k=>(envA hb x k).1) (ZW0 ha.must hb.must) (Z0i ha.may hb.may)
theorem Zjj {F:I→I→I} (hF:∀ x y,isB x=true∧Zd x=false→isB y=true→isB (F x y)=true∧Zd (F x y)=false) (ha:a.1=true→envOK u t a) (hb:b.1=true→envOK u t b):(eJoin F a b).1=true→envOK u t (eJoin F a b):=by
 unfold eJoin
 cases ea:a.1<;>cases eb:b.1
 ·exact fun k=>nomatch k
 ·exact fun _=>hb eb
 ·exact fun _=>ha ea
 ·exact fun _=>ZYl hF (ha ea) (hb eb)
theorem ZNd {F G:I→I→I} (h:∀ x y,isB x=true→isB y=true→F x y=G x y) (ha:a.1=true→envOK u t a) (hb:b.1=true→envOK u t b):eJoin F a b=eJoin G a b:=by
 unfold eJoin
 cases ea:a.1<;>cases eb:b.1<;>simp only [cond_true,cond_false]
 have ha:=ha ea
 have hb:=hb eb
 unfold mrg
 rw [ZO0 h (fun x k=>(envV ha x k).1) fun x k=>(envV hb x k).1,ZO0 h (fun x k=>(envG ha x k).1) fun x k=>(envG hb x k).1,ZO0 h (fun x k=>(envA ha x k).1) fun x k=>(envA hb x k).1]
theorem Zl9 (hu:unitOK u) (h:envOK u t a):szE a:=by
 obtain ⟨c,hc,hv⟩:=h.c
 have cv:=(hu.ts c (mG0 hc)).v
 refine ⟨by omega,by rw [h.g];have:=hu.g;omega,by rw [h.a];have:=hu.a;omega⟩
theorem ZOj {α:Type} {q:α→α→Bool} (hq:∀ x y,q x y=true↔x=y) [DecidableEq α] {f:Nat→Unit→α→Option (Unit⊕(Unit⊕Bool))} {b:List α} (h:∀ j d,f j () d=Za b[j]? none fun e=>bif !(q d e) then some (.inr (.inr false)) else some (.inl ())) :
  ∀ (a:List α) (j:Nat),j+a.length=b.length→Zq f (fun _=>some (.inl ())) j a ()=some (bif decide (a=b.drop j) then .inl () else .inr false)
 | [],j,hl=>by
  have:b.drop j=[]:=List.drop_eq_nil_of_le (by simp at hl;omega)
  rw [this];rfl
 | d::r,j,hl=>by
  rw [List.length_cons] at hl
  have hj:j<b.length:=by omega
  have hd:b.drop j=b[j]::b.drop (j+1):=List.drop_eq_getElem_cons hj
  rw [hd]
  simp only [Zq,h,List.getElem?_eq_getElem hj,Zc]
  cases e:q d b[j]
  ·have:d≠b[j]:=fun k=>by rw [(hq _ _).2 k] at e;cases e
   rw [dF0 (fun k=>this (List.cons.inj k).1)];rfl
  ·have ed:=(hq _ _).1 e
   simp only [Bool.not_true,cond_false]
   have ih:=ZOj hq h r (j+1) (by omega)
   rw [ih]
   congr 2
   rw [decide_eq_decide]
   exact ⟨fun k=>by rw [k,← ed],fun k=>(List.cons.inj k).2⟩
theorem ZQL {α:Type} {q:α→α→Bool} (hq:∀ x y,q x y=true↔x=y) [DecidableEq α] {g:Option Bool} {a b:List α} {f:Nat→Unit→α→Option (Unit⊕(Unit⊕Bool))} (h:∀ j d,f j () d=Za b[j]? none fun e=>bif !(q d e) then some (.inr (.inr false)) else some (.inl ()))
  (hg:g=bif (a.length:Int) !=(b.length:Int) then some false else Za (Zq f (fun _=>some (.inl ())) 0 a ()) none fun d4=>Sum.elim (fun _=>some true) (fun e5=>some e5) d4):g=some (decide (a=b)):=by
 rw [hg]
 by_cases hl:a.length=b.length
 ·rw [show ((a.length:Int) !=(b.length:Int))=false by simp [hl],ZOj hq h a 0 (by omega),List.drop_zero]
  cases decide (a=b)<;>rfl
 ·rw [show ((a.length:Int) !=(b.length:Int))=true by simp;omega,dF0 (fun e=>hl (by rw [e]))];rfl
def ZW9 (x y:I):Bool:=x.1==y.1&&x.2==y.2
theorem ZNf (x y:I):ZW9 x y=true↔x=y:=by simp [ZW9,Prod.ext_iff]
theorem ZjD (a b:List I) (ha:a.length≤1000):Zju a b=some (decide (a=b)):=
 ZQL ZNf (f:=fun i _ d=>Yn b a i d) (fun j d=>rfl) (by
  unfold Zju
  rw [ZpG b a () (by omega)];rfl)
theorem Zqc (a b:List I) (ha:a.length≤1000):Zjr a b=some (decide (a=b)):=
 ZQL ZNf (f:=fun i _ d=>VA b a i d) (fun j d=>rfl) (by
  unfold Zjr
  rw [ZmH b a () (by omega)];rfl)
def sameE (a b:E):Bool:=bif a.1&&b.1 then decide (a.2.1=b.2.1)&&(decide (a.2.2.1=b.2.2.1)&&(decide (a.2.2.2.1=b.2.2.2.1)&&(a.2.2.2.2.1==b.2.2.2.2.1&&a.2.2.2.2.2==b.2.2.2.2.2))) else a.1==b.1
theorem ZHX {a b:E} (ha:a.1=true→szE a):Zyw a b=some (sameE a b):=by
 unfold Zyw sameE Hk
 obtain ⟨on,V,G,A,must,may⟩:=a
 cases on
 ·cases b.1<;>rfl
 ·have ha:=ha rfl
  cases b.1
  ·rfl
  ·simp only [Bool.not_true,cond_false,Bool.true_and,cond_true,ZjD _ _ ha.1,ZjD _ _ ha.2.1,ZjD _ _ ha.2.2,Zc]
   cases decide (V=b.2.1)<;>cases decide (G=b.2.2.1)<;>cases decide (A=b.2.2.2.1)<;>cases (must==b.2.2.2.2.1)<;>rfl
theorem Zqa {a b:E} (ha:a.1=true→szE a):Zjp a b=some (sameE a b):=by
 unfold Zjp sameE ZcX
 obtain ⟨on,V,G,A,must,may⟩:=a
 cases on
 ·cases b.1<;>rfl
 ·have ha:=ha rfl
  cases b.1
  ·rfl
  ·simp only [Bool.not_true,cond_false,Bool.true_and,cond_true,Zqc _ _ ha.1,Zqc _ _ ha.2.1,Zqc _ _ ha.2.2,Zc]
   cases decide (V=b.2.1)<;>cases decide (G=b.2.2.1)<;>cases decide (A=b.2.2.2.1)<;>cases (must==b.2.2.2.2.1)<;>rfl
theorem ZUO {a b:E} (ha:a.1=true) (hb:b.1=true) (h:sameE a b=true):a=b:=by
 unfold sameE at h
 rw [ha,hb] at h
 simp only [Bool.and_true,cond_true,Bool.and_eq_true,decide_eq_true_eq,beq_iff_eq] at h
 obtain ⟨on,V,G,A,must,may⟩:=a
 obtain ⟨on',V',G',A',must',may'⟩:=b
 cases ha;cases hb
 obtain ⟨rfl,rfl,rfl,rfl,rfl⟩:=h
 rfl
end
def ZLh:List Sh:=[.dat (.int .i64)]
def ZOE:List Con:=[]
def Zu8 (a0:Int):Option (List I):=bif decide ((0≤if 0>a0 then 0 else a0)∧((if 0>a0 then 0 else a0)=if 0>a0 then 0 else a0)∧(Int.toNat (if (0:Int)>a0 then 0 else a0))*(16+1)≤lim) then some (List.replicate (Int.toNat (if (0:Int)>a0 then 0 else a0)) (0,0)) else none
def Zkx (x:Int×Unit):Option (List I):=Zu8 x.1
def ZAg:=conP true ZLh (.dat (.sl tI)) Zkx
theorem ZLR:Zg Tryz.prog 78 ZAg:=Ze (calU ZOE [] 40 1048576 8 78) true (by rfl) (by rfl) (fun x r e=>(Zk _ _ _ _ _ _ _).trans ((show _=Zkx x by kernel_rfl).trans e)) (.inl rfl)
abbrev Zs2:Type:=((List Int)×Int×Int×Bool×Int×Int×Bool×(List I)×(List I)×Int×Int×(List I))
def ZLf:List Sh:=[.dat tU,.dat (.int .i64)]
def Zkk:Nat→List Nat:=fun c=>bif c.beq 0 then [4,5,33,34,35] else [4,5]
def ZDP:List Con:=[⟨77,ZrO,ZDK⟩,⟨78,ZAg,ZLR⟩,⟨79,ZxW,ZIi⟩]
def Ze2:StS:=⟨[(4,.ptr 0 0),(5,.ptr 1 0),(33,.sl (.int .i64)),(34,.int .i64),(35,.int .i64)],[(0,.box [.bool,.nil,.nil,.nil,.int .i64,.int .i64]),(1,.box [.bool,.sl tI,.row 2,.sl tI,.int .i64,.int .i64]),(2,.row tI)],3⟩
def V9:StS:=⟨[(4,.ptr 0 0),(5,.ptr 1 0)],[(0,.box [.bool,.nil,.nil,.nil,.int .i64,.int .i64]),(1,.box [.bool,.sl tI,.row 2,.sl tI,.int .i64,.int .i64]),(2,.row tI)],3⟩
abbrev Hq:=Zs2
def ZAX:StD Ze2→Hq:=fun ((_,_,a,b,c,_),((d,_,_,_,e,f,_),(g,h,_,i,j,k,_),l,_))=>(a,b,c,d,e,f,g,h,i,j,k,l)
def ZB4:Hq→StD Ze2:=fun (a,b,c,d,e,f,g,h,i,j,k,l)=>(((),(),a,b,c,()),((d,(),(),(),e,f,()),(g,h,(),i,j,k,()),l,()))
abbrev JA:=(Bool×Int×Int×Bool×(List I)×(List I)×Int×Int×(List I))
def Zv6:StD V9→JA:=fun ((_,_,_),((a,_,_,_,b,c,_),(d,e,_,f,g,h,_),i,_))=>(a,b,c,d,e,f,g,h,i)
def ZgL:JA→StD V9:=fun (a,b,c,d,e,f,g,h,i)=>(((),(),()),((a,(),(),(),b,c,()),(d,e,(),f,g,h,()),i,()))
def W4 (s33:List Int) (s34 s35:Int) (b0:Bool) (b0_1 b0_2:Int) (b1:Bool) (b1_1 b1_2:List I) (b1_3 b1_4:Int) (b2:List I):Option (Zs2⊕(Bool×Int×Int×Bool×(List I)×(List I)×Int×Int×(List I))):=bif decide (s35<s34) then bif decide (0≤s35) then Za s33[s35.toNat]? none fun d14=>Za (ZkZ ([d14],())) none fun d15=>bif decide ((b2.length+[d15].length+1)*16≤lim) then some (.inl (s33,s34,IntKind.i64.wrap (s35+1),b0,b0_1,b0_2,b1,b1_1,b1_2,b1_3,b1_4,b2++[d15])) else none else none else some (.inr (b0,b0_1,b0_2,b1,b1_1,b1_2,b1_3,b1_4,b2))
def ZnF:Hq→Option (Hq⊕JA):=fun (a,b,c,d,e,f,g,h,i,j,k,l)=>W4 a b c d e f g h i j k l
def ZeB (x:Hq):Option JA:=Zn ZnF Zr x
def Zsz:Nat→Tm→Prog (Nat×Tm):=(varP 0 (fun T h=>(rdS Ze2 T h).map ZAX) ZeB (altE 2 V9 ZgL) (fun _ _=>.fail))
def ZEN:Lpc:=⟨50,0,49,(ownP [(1,2,tI)] [] (Zkk 0) (fun base T=>.norm base (Zkk 0) T (Zsz base))),by kernel_rfl,by kernel_rfl,(HB (loopU ZDP [] 40 1048576 8 (keep:=Zkk) (q:=Zsz) (by kernel_rfl) (ZA (s:=Ze2) (un:=ZB4) (by rfl) (fun _=>rfl) (Zp (s:=V9) (un:=ZgL) (flat:=Zv6) (by rfl) (fun _=>rfl)) (step:=ZnF) (fun _=>by kernel_rfl) (fun _ _ e=>⟨_,e⟩) (Zo 2 V9 ZgL) (ZI.fail _ _))))⟩
def Zu6 (a0:U) (a1:Int):Option E:=bif decide (a1<0) then some ((false,[],[],[],0,0):E) else bif decide (a1≥(List.length a0.2.2.2:Int)) then some ((false,[],[],[],0,0):E) else bif decide (0≤a1) then Za a0.2.2.2[a1.toNat]? none fun d4=>Za (Zkx (d4.1,())) none fun d5=>Za (Zkx ((List.length a0.2.1:Int),())) none fun d6=>Za (ZeB (a0.1,(List.length a0.1:Int),0,false,0,0,true,d5,d6,0,0,[])) none fun d7=>some (d7.2.2.2.1,d7.2.2.2.2.1,d7.2.2.2.2.2.2.2.2,d7.2.2.2.2.2.1,d7.2.2.2.2.2.2.1,d7.2.2.2.2.2.2.2.1) else none
def Zig (x:U×(Int×Unit)):Option E:=Zu6 x.1 x.2.1
def ZpV:=conP true ZLf (.dat tE) Zig
theorem ZAy:Zg Tryz.prog 50 ZpV:=Ze (calU ZDP [ZEN] 40 1048576 8 50) true (by rfl) (by rfl) (fun x r e=>(Zk _ _ _ _ _ _ _).trans ((show _=Zig x by kernel_rfl).trans e)) (.inl rfl)
def Zdu (b0:Bool) (b0_1 b0_2:Int) (b1:Bool) (b1_1 b1_2:List I) (b1_3 b1_4:Int) (s33:List Int) (i:Nat) (b2:List I) (d:Int):Option ((List I)⊕JA):=
 Za (ZkZ ([d],())) (none) fun d15=>
  bif decide ((b2.length+[d15].length+1)*16≤lim) then
  some (.inl (b2++[d15]))
 else none
def Znn (b0:Bool) (b0_1 b0_2:Int) (b1:Bool) (b1_1 b1_2:List I) (b1_3 b1_4:Int) (s33:List Int) (b2:List I):Option JA:=
 some (b0,b0_1,b0_2,b1,b1_1,b1_2,b1_3,b1_4,b2)
abbrev ZBM (b0:Bool) (b0_1 b0_2:Int) (b1:Bool) (b1_1 b1_2:List I) (b1_3 b1_4:Int) (s33:List Int) (i:Nat) (s:List I):Hq:=(s33,(s33.length:Int),(i:Int),b0,b0_1,b0_2,b1,b1_1,b1_2,b1_3,b1_4,s)
def ZiD (b0:Bool) (b0_1 b0_2:Int) (b1:Bool) (b1_1 b1_2:List I) (b1_3 b1_4:Int) (s33:List Int) (s:List I):Option JA:=Zq (fun i s d=>Zdu b0 b0_1 b0_2 b1 b1_1 b1_2 b1_3 b1_4 s33 i s d) (fun s=>Znn b0 b0_1 b0_2 b1 b1_1 b1_2 b1_3 b1_4 s33 s) 0 s33 s
theorem ZBB (b0:Bool) (b0_1 b0_2:Int) (b1:Bool) (b1_1 b1_2:List I) (b1_3 b1_4:Int) (s33:List Int) (s:List I) (hl:s33.length<9223372036854775807):ZeB (s33,(s33.length:Int),0,b0,b0_1,b0_2,b1,b1_1,b1_2,b1_3,b1_4,s)=ZiD b0 b0_1 b0_2 b1 b1_1 b1_2 b1_3 b1_4 s33 s:=by
 unfold ZeB ZiD
 refine Zs s33 (ZBM b0 b0_1 b0_2 b1 b1_1 b1_2 b1_3 b1_4 s33) _ _ ?_ ?_ s (by unfold Zr;omega)
 ·intro i s d hi hd
  have e1:decide ((i:Int)<(s33.length:Int))=true:=dT0 (by omega)
  have e2:decide (0≤(i:Int))=true:=dT0 (by omega)
  have e3:Int.toNat (i:Int)=i:=tN0 i
  have e4:=Zu hi (Nat.le_of_lt hl)
  show W4 (s33) ((s33.length:Int)) ((i:Int)) (b0) (b0_1) (b0_2) (b1) (b1_1) (b1_2) (b1_3) (b1_4) (s)=upd _ (Zdu b0 b0_1 b0_2 b1 b1_1 b1_2 b1_3 b1_4 s33 i s d)
  unfold W4 Zdu
  simp only [e1,e2,e3,e4,hd,cond_true,cond_false,Zc,ZD,ZG,ZE,ZK,ZL,ZF]
 ·intro s
  have e1:decide ((s33.length:Int)<(s33.length:Int))=false:=dF0 (by omega)
  show W4 (s33) ((s33.length:Int)) ((s33.length:Int)) (b0) (b0_1) (b0_2) (b1) (b1_1) (b1_2) (b1_3) (b1_4) (s)=_
  unfold W4 Znn
  rw [e1]
  rfl
abbrev ZpP:Type:=(Int×(List Int)×(List Int)×Int×(List C)×Bool×Int×Int×Bool×Int×Int×(List I)×(List I)×(List I))
abbrev ZpQ:Type:=(Int×(List Int)×(List Int)×Int×(List C)×Bool×Int×Int×Bool×Int×Int×(List I)×(List I))
abbrev ZpR:Type:=(Int×Int×(List Int)×(List Int)×Int×(List C)×Bool×Int×Int×Bool×Int×Int×(List I))
abbrev ZpS:Type:=((List Int)×(List Int)×Int×(List C)×Bool×Int×Int×Bool×Int×Int×(List I)×(List I))
abbrev KS:=ZpR
abbrev ZaB:=((List Int)×(List Int)×Int×(List C)×Bool×Int×Int×Bool×Int×Int×(List I))
def Kk (s1 s6:Int) (b0 b0_1:List Int) (b0_2:Int) (b0_3:List C) (b1:Bool) (b1_1 b1_2:Int) (b2:Bool) (b2_1 b2_2:Int) (b3:List I):Option (ZpR⊕((List Int)×(List Int)×Int×(List C)×Bool×Int×Int×Bool×Int×Int×(List I))):=bif decide (0≤s1) then Za b0_3[s1.toNat]? none fun d17=>bif decide (s6<d17.1) then bif decide ((b3.length+[(0,0)].length+1)*16≤lim) then some (.inl (s1,IntKind.i64.wrap (s6+1),b0,b0_1,b0_2,b0_3,b1,b1_1,b1_2,b2,b2_1,b2_2,b3++[(0,0)])) else none else some (.inr (b0,b0_1,b0_2,b0_3,b1,b1_1,b1_2,b2,b2_1,b2_2,b3)) else none
def ZlA:KS→Option (KS⊕ZaB):=fun (a,b,c,d,e,f,g,h,i,j,k,l,m)=>Kk a b c d e f g h i j k l m
def Zb6 (x:KS):Option ZaB:=Zn ZlA Zr x
abbrev KU:=ZpQ
abbrev QJ:=ZpS
def HI (s7:Int) (b0 b0_1:List Int) (b0_2:Int) (b0_3:List C) (b1:Bool) (b1_1 b1_2:Int) (b2:Bool) (b2_1 b2_2:Int) (b3 b4:List I):Option (ZpQ⊕ZpS):=bif decide (s7<(b0.length:Int)) then bif decide (0≤s7) then Za b0[s7.toNat]? none fun d17=>bif decide ((b4.length+[(d17,d17)].length+1)*16≤lim) then some (.inl (IntKind.i64.wrap (s7+1),b0,b0_1,b0_2,b0_3,b1,b1_1,b1_2,b2,b2_1,b2_2,b3,b4++[(d17,d17)])) else none else none else some (.inr (b0,b0_1,b0_2,b0_3,b1,b1_1,b1_2,b2,b2_1,b2_2,b3,b4))
def ZlB:KU→Option (KU⊕QJ):=fun (a,b,c,d,e,f,g,h,i,j,k,l,m)=>HI a b c d e f g h i j k l m
def Zb7 (x:KU):Option QJ:=Zn ZlB Zr x
abbrev KV:=ZpP
abbrev QK:=(Bool×Int×Int×Bool×Int×Int×(List I)×(List I)×(List I))
def HJ (s8:Int) (b0 b0_1:List Int) (b0_2:Int) (b0_3:List C) (b1:Bool) (b1_1 b1_2:Int) (b2:Bool) (b2_1 b2_2:Int) (b3 b4 b5:List I):Option (ZpP⊕(Bool×Int×Int×Bool×Int×Int×(List I)×(List I)×(List I))):=bif decide (s8<(b0_1.length:Int)) then bif decide ((b5.length+[(0,0)].length+1)*16≤lim) then some (.inl (IntKind.i64.wrap (s8+1),b0,b0_1,b0_2,b0_3,b1,b1_1,b1_2,b2,b2_1,b2_2,b3,b4,b5++[(0,0)])) else none else some (.inr (b1,b1_1,b1_2,b2,b2_1,b2_2,b3,b4,b5))
def ZlC:KV→Option (KV⊕QK):=fun (a,b,c,d,e,f,g,h,i,j,k,l,m,n)=>HJ a b c d e f g h i j k l m n
def Zb8 (x:KV):Option QK:=Zn ZlC Zr x
def Zp3 (a0:U) (a1:Int):Option E:=bif decide (a1<0) then some ((false,[],[],[],0,0):E) else bif decide (a1≥(List.length a0.2.2.2:Int)) then some ((false,[],[],[],0,0):E) else Za (Zb6 (a1,0,a0.1,a0.2.1,a0.2.2.1,a0.2.2.2,false,0,0,true,0,0,[])) none fun d6=>Za (Zb7 (0,d6.1,d6.2.1,d6.2.2.1,d6.2.2.2.1,d6.2.2.2.2.1,d6.2.2.2.2.2.1,d6.2.2.2.2.2.2.1,d6.2.2.2.2.2.2.2.1,d6.2.2.2.2.2.2.2.2.1,d6.2.2.2.2.2.2.2.2.2.1,d6.2.2.2.2.2.2.2.2.2.2,[])) none fun d7=>Za (Zb8 (0,d7.1,d7.2.1,d7.2.2.1,d7.2.2.2.1,d7.2.2.2.2.1,d7.2.2.2.2.2.1,d7.2.2.2.2.2.2.1,d7.2.2.2.2.2.2.2.1,d7.2.2.2.2.2.2.2.2.1,d7.2.2.2.2.2.2.2.2.2.1,d7.2.2.2.2.2.2.2.2.2.2.1,d7.2.2.2.2.2.2.2.2.2.2.2,[])) none fun d8=>some (d8.2.2.2.1,d8.2.2.2.2.2.2.1,d8.2.2.2.2.2.2.2.1,d8.2.2.2.2.2.2.2.2,d8.2.2.2.2.1,d8.2.2.2.2.2.1)
def Zep (x:U×(Int×Unit)):Option E:=Zp3 x.1 x.2.1
def ZbF (b0_1:List Int) (b0_2:Int) (b0_3:List C) (b1:Bool) (b1_1 b1_2:Int) (b2:Bool) (b2_1 b2_2:Int) (b3:List I) (b0:List Int) (i:Nat) (b4:List I) (d:Int):Option ((List I)⊕QJ):=
 bif decide ((b4.length+[(d,d)].length+1)*16≤lim) then
  some (.inl (b4++[(d,d)]))
 else none
def Zgl (b0_1:List Int) (b0_2:Int) (b0_3:List C) (b1:Bool) (b1_1 b1_2:Int) (b2:Bool) (b2_1 b2_2:Int) (b3:List I) (b0:List Int) (b4:List I):Option QJ:=
 some (b0,b0_1,b0_2,b0_3,b1,b1_1,b1_2,b2,b2_1,b2_2,b3,b4)
abbrev Zxa (b0_1:List Int) (b0_2:Int) (b0_3:List C) (b1:Bool) (b1_1 b1_2:Int) (b2:Bool) (b2_1 b2_2:Int) (b3:List I) (b0:List Int) (i:Nat) (s:List I):KU:=((i:Int),b0,b0_1,b0_2,b0_3,b1,b1_1,b1_2,b2,b2_1,b2_2,b3,s)
def Zgz (b0_1:List Int) (b0_2:Int) (b0_3:List C) (b1:Bool) (b1_1 b1_2:Int) (b2:Bool) (b2_1 b2_2:Int) (b3:List I) (b0:List Int) (s:List I):Option QJ:=Zq (fun i s d=>ZbF b0_1 b0_2 b0_3 b1 b1_1 b1_2 b2 b2_1 b2_2 b3 b0 i s d) (fun s=>Zgl b0_1 b0_2 b0_3 b1 b1_1 b1_2 b2 b2_1 b2_2 b3 b0 s) 0 b0 s
theorem ZwZ (b0_1:List Int) (b0_2:Int) (b0_3:List C) (b1:Bool) (b1_1 b1_2:Int) (b2:Bool) (b2_1 b2_2:Int) (b3:List I) (b0:List Int) (s:List I) (hl:b0.length<9223372036854775807):Zb7 (0,b0,b0_1,b0_2,b0_3,b1,b1_1,b1_2,b2,b2_1,b2_2,b3,s)=Zgz b0_1 b0_2 b0_3 b1 b1_1 b1_2 b2 b2_1 b2_2 b3 b0 s:=by
 unfold Zb7 Zgz
 refine Zs b0 (Zxa b0_1 b0_2 b0_3 b1 b1_1 b1_2 b2 b2_1 b2_2 b3 b0) _ _ ?_ ?_ s (by unfold Zr;omega)
 ·intro i s d hi hd
  have e1:decide ((i:Int)<(b0.length:Int))=true:=dT0 (by omega)
  have e2:decide (0≤(i:Int))=true:=dT0 (by omega)
  have e3:Int.toNat (i:Int)=i:=tN0 i
  have e4:=Zu hi (Nat.le_of_lt hl)
  show HI ((i:Int)) (b0) (b0_1) (b0_2) (b0_3) (b1) (b1_1) (b1_2) (b2) (b2_1) (b2_2) (b3) (s)=upd _ (ZbF b0_1 b0_2 b0_3 b1 b1_1 b1_2 b2 b2_1 b2_2 b3 b0 i s d)
  unfold HI ZbF
  simp only [e1,e2,e3,e4,hd,cond_true,cond_false,Zc,ZD,ZG,ZE,ZK,ZL,ZF]
 ·intro s
  have e1:decide ((b0.length:Int)<(b0.length:Int))=false:=dF0 (by omega)
  show HI ((b0.length:Int)) (b0) (b0_1) (b0_2) (b0_3) (b1) (b1_1) (b1_2) (b2) (b2_1) (b2_2) (b3) (s)=_
  unfold HI Zgl
  rw [e1]
  rfl
def ZbG (b0:List Int) (b0_2:Int) (b0_3:List C) (b1:Bool) (b1_1 b1_2:Int) (b2:Bool) (b2_1 b2_2:Int) (b3 b4:List I) (b0_1:List Int) (i:Nat) (b5:List I) (d:Int):Option ((List I)⊕QK):=
 bif decide ((b5.length+[(0,0)].length+1)*16≤lim) then
  some (.inl (b5++[(0,0)]))
 else none
def Zgm (b0:List Int) (b0_2:Int) (b0_3:List C) (b1:Bool) (b1_1 b1_2:Int) (b2:Bool) (b2_1 b2_2:Int) (b3 b4:List I) (b0_1:List Int) (b5:List I):Option QK:=
 some (b1,b1_1,b1_2,b2,b2_1,b2_2,b3,b4,b5)
abbrev Zxb (b0:List Int) (b0_2:Int) (b0_3:List C) (b1:Bool) (b1_1 b1_2:Int) (b2:Bool) (b2_1 b2_2:Int) (b3 b4:List I) (b0_1:List Int) (i:Nat) (s:List I):KV:=((i:Int),b0,b0_1,b0_2,b0_3,b1,b1_1,b1_2,b2,b2_1,b2_2,b3,b4,s)
def ZgA (b0:List Int) (b0_2:Int) (b0_3:List C) (b1:Bool) (b1_1 b1_2:Int) (b2:Bool) (b2_1 b2_2:Int) (b3 b4:List I) (b0_1:List Int) (s:List I):Option QK:=Zq (fun i s d=>ZbG b0 b0_2 b0_3 b1 b1_1 b1_2 b2 b2_1 b2_2 b3 b4 b0_1 i s d) (fun s=>Zgm b0 b0_2 b0_3 b1 b1_1 b1_2 b2 b2_1 b2_2 b3 b4 b0_1 s) 0 b0_1 s
theorem Zw0 (b0:List Int) (b0_2:Int) (b0_3:List C) (b1:Bool) (b1_1 b1_2:Int) (b2:Bool) (b2_1 b2_2:Int) (b3 b4:List I) (b0_1:List Int) (s:List I) (hl:b0_1.length<9223372036854775807):Zb8 (0,b0,b0_1,b0_2,b0_3,b1,b1_1,b1_2,b2,b2_1,b2_2,b3,b4,s)=ZgA b0 b0_2 b0_3 b1 b1_1 b1_2 b2 b2_1 b2_2 b3 b4 b0_1 s:=by
 unfold Zb8 ZgA
 refine Zs b0_1 (Zxb b0 b0_2 b0_3 b1 b1_1 b1_2 b2 b2_1 b2_2 b3 b4 b0_1) _ _ ?_ ?_ s (by unfold Zr;omega)
 ·intro i s d hi hd
  have e1:decide ((i:Int)<(b0_1.length:Int))=true:=dT0 (by omega)
  have e2:decide (0≤(i:Int))=true:=dT0 (by omega)
  have e3:Int.toNat (i:Int)=i:=tN0 i
  have e4:=Zu hi (Nat.le_of_lt hl)
  show HJ ((i:Int)) (b0) (b0_1) (b0_2) (b0_3) (b1) (b1_1) (b1_2) (b2) (b2_1) (b2_2) (b3) (b4) (s)=upd _ (ZbG b0 b0_2 b0_3 b1 b1_1 b1_2 b2 b2_1 b2_2 b3 b4 b0_1 i s d)
  unfold HJ ZbG
  simp only [e1,e2,e3,e4,hd,cond_true,cond_false,Zc,ZD,ZG,ZE,ZK,ZL,ZF]
 ·intro s
  have e1:decide ((b0_1.length:Int)<(b0_1.length:Int))=false:=dF0 (by omega)
  show HJ ((b0_1.length:Int)) (b0) (b0_1) (b0_2) (b0_3) (b1) (b1_1) (b1_2) (b2) (b2_1) (b2_2) (b3) (b4) (s)=_
  unfold HJ Zgm
  rw [e1]
  rfl
def Zc8 (u:U) (c:C):E:=(true,List.replicate c.1.toNat (0,0),u.1.map (fun n=>(n,n)),List.replicate u.2.1.length (0,0),0,0)
theorem ZoV {α Y:Type} {f:Nat→List I→α→Option (List I⊕Y)} {fin:List I→Option Y} {F:α→I} {L:List α} (h:∀ j s d,d∈L→s.length≤1000→f j s d=some (.inl (s++[F d]))) :
  ∀ (l:List α) (j:Nat) (s:List I),(∀ d∈l,d∈L)→s.length+l.length≤1000→Zq f fin j l s=fin (s++l.map F)
 | [],j,s,_,_=>by simp [Zq]
 | d::r,j,s,hL,hs=>by
  rw [List.length_cons] at hs
  rw [QB (h j s d (hL d (by simp)) (by omega)),ZoV h r (j+1) (s++[F d]) (fun x hx=>hL x (by simp [hx])) (by rw [List.length_append];simp;omega),List.map_cons,List.append_assoc]
  rfl
theorem ZFJ (n:Int) (h0:0≤n) (h:n≤1000):Zu8 n=some (List.replicate n.toNat (0,0)):=by
 unfold Zu8
 have e:(if 0>n then 0 else n)=n:=if_neg (by omega)
 rw [e,dT0 (by unfold lim;omega)]
 rfl
theorem ZFI (u:U) (t:Int) (hu:unitOK u) (ht:0≤t) {c:C} (hc:u.2.2.2[t.toNat]? = some c):Zu6 u t=some (Zc8 u c):=by
 have hlt:t.toNat<u.2.2.2.length:=(List.getElem?_eq_some_iff.1 hc).1
 have cv:=(hu.ts c (mG0 hc)).v
 have ua:=hu.a
 have ug:=hu.g
 unfold Zu6 Zkx
 rw [dF0 (by omega),dF0 (by omega),dT0 (by omega),hc]
 simp only [cond_false,cond_true,Zc,ZFJ c.1 cv.1 (by omega),ZFJ (u.2.1.length:Int) (by omega) (by omega),tN0]
 rw [ZBB _ _ _ _ _ _ _ _ u.1 [] (by omega)]
 unfold ZiD
 rw [ZoV (F:=fun n=>(n,n)) (L:=u.1) (fun j s d hd hs=>?_) u.1 0 [] (fun _ h=>h) (by simp;omega)]
 ·rfl
 ·unfold Zdu
  rw [ZNE d (hu.gs d hd)]
  simp only [Zc,List.length_cons,List.length_nil,Nat.zero_add,ZDk hs,cond_true]
theorem ZAt (u:U) (t:Int) (hu:unitOK u) (ht:0≤t) {c:C} (hc:u.2.2.2[t.toNat]? = some c):Zp3 u t=some (Zc8 u c):=by
 have hlt:t.toNat<u.2.2.2.length:=(List.getElem?_eq_some_iff.1 hc).1
 have cv:=(hu.ts c (mG0 hc)).v
 have ua:=hu.a
 have ug:=hu.g
 have h0:Zb6 (t,0,u.1,u.2.1,u.2.2.1,u.2.2.2,false,0,0,true,0,0,[])=some (u.1,u.2.1,u.2.2.1,u.2.2.2,false,0,0,true,0,0,List.replicate c.1.toNat (0,0)):=by
  unfold Zb6
  have e2:decide (0≤t)=true:=dT0 ht
  have:=Zs (step:=fun x:KS=>Kk x.1 x.2.1 x.2.2.1 x.2.2.2.1 x.2.2.2.2.1 x.2.2.2.2.2.1 x.2.2.2.2.2.2.1 x.2.2.2.2.2.2.2.1 x.2.2.2.2.2.2.2.2.1 x.2.2.2.2.2.2.2.2.2.1 x.2.2.2.2.2.2.2.2.2.2.1 x.2.2.2.2.2.2.2.2.2.2.2.1 x.2.2.2.2.2.2.2.2.2.2.2.2)
   (List.replicate c.1.toNat ()) (fun i s=>(t,(i:Int),u.1,u.2.1,u.2.2.1,u.2.2.2,false,0,0,true,0,0,s))
   (fun i s _=>bif decide ((s.length+[((0,0):I)].length+1)*16≤lim) then some (.inl (s++[(0,0)])) else none) (fun s=>some (u.1,u.2.1,u.2.2.1,u.2.2.2,false,0,0,true,0,0,s)) ?_ ?_ [] (n:=Zr) (by rw [List.length_replicate];unfold Zr;omega)
  ·refine this.trans ?_
   rw [ZoV (F:=fun _=>((0,0):I)) (L:=List.replicate c.1.toNat ()) (fun j s d hd hs=>?_) (List.replicate c.1.toNat ()) 0 [] (fun _ h=>h) (by simp;omega)]
   ·simp
   ·simp only [List.length_cons,List.length_nil,Nat.zero_add,ZDk hs,cond_true]
  ·intro i s d hi hd
   rw [List.length_replicate] at hi
   show Kk t (i:Int) u.1 u.2.1 u.2.2.1 u.2.2.2 false 0 0 true 0 0 s=_
   unfold Kk
   have e4:=Zu (i:=i) (n:=c.1.toNat) hi (by omega)
   rw [e2,cond_true,hc,Zc,dT0 (show (i:Int)<c.1 by omega),cond_true,e4]
   cases decide ((s.length+[((0,0):I)].length+1)*16≤lim)<;>rfl
  ·intro s
   rw [List.length_replicate]
   show Kk t (c.1.toNat:Int) u.1 u.2.1 u.2.2.1 u.2.2.2 false 0 0 true 0 0 s=_
   unfold Kk
   rw [e2,cond_true,hc,Zc,dF0 (show ¬ ((c.1.toNat:Int)<c.1) by omega)]
   rfl
 unfold Zp3
 rw [dF0 (by omega),dF0 (by omega)]
 simp only [cond_false]
 rw [h0]
 simp only [Zc]
 rw [ZwZ _ _ _ _ _ _ _ _ _ _ u.1 [] (by omega)]
 unfold Zgz
 rw [ZoV (F:=fun n=>(n,n)) (L:=u.1) (fun j s d hd hs=>?_) u.1 0 [] (fun _ h=>h) (by simp;omega)]
 ·simp only [Zgl,Zc,List.nil_append]
  rw [Zw0 _ _ _ _ _ _ _ _ _ _ _ u.2.1 [] (by omega)]
  unfold ZgA
  rw [ZoV (F:=fun _=>((0,0):I)) (L:=u.2.1) (fun j s d hd hs=>?_) u.2.1 0 [] (fun _ h=>h) (by simp;omega)]
  ·simp only [Zgm,Zc,List.nil_append,List.map_const']
   rfl
  ·unfold ZbG
   simp only [List.length_cons,List.length_nil,Nat.zero_add,ZDk hs,cond_true]
 ·unfold ZbF
  simp only [List.length_cons,List.length_nil,Nat.zero_add,ZDk hs,cond_true]
theorem ZGv (u:U) (t:Int) (hu:unitOK u) {c:C} (hc:u.2.2.2[t.toNat]? = some c):envOK u t (Zc8 u c):=by
 have cv:=(hu.ts c (mG0 hc)).v
 refine ⟨⟨c,hc,by simp [Zc8];omega⟩,by simp [Zc8],by simp [Zc8],by simp [Zc8],by simp [Zc8],fun x hx=>?_⟩
 simp only [Zc8,List.mem_append,List.mem_map,List.mem_replicate] at hx
 rcases hx with (⟨_,rfl⟩ | ⟨n,hn,rfl⟩) | ⟨_,rfl⟩
 ·exact ⟨by decide,by decide⟩
 ·have hf:=Jw.1 (hu.gs n hn)
  exact ⟨Zh8 hf.1 (Int.le_refl _) hf.2,Z6 (Int.le_refl _)⟩
 ·exact ⟨by decide,by decide⟩
def insR (n:Int):List Int→List Int
 | []=>[n]
 | x::r=>if x<n then x::insR n r else if x=n then x::r else n::x::r
def layS (l:List Int) (n:Int):List Int:=bif fitB n then insR n l else l
theorem ZGB (n:Int):∀ (l:List Int) (x:Int),x∈insR n l↔x=n∨x∈l
 | [],x=>by simp [insR]
 | y::r,x=>by
  unfold insR
  split
  ·rw [List.mem_cons,ZGB n r x,List.mem_cons]
   exact ⟨fun h=>h.elim (fun k=>.inr (.inl k)) (fun k=>k.elim .inl (fun q=>.inr (.inr q))),fun h=>h.elim (fun k=>.inr (.inl k)) (fun k=>k.elim .inl (fun q=>.inr (.inr q)))⟩
  ·split
   ·rename_i h
    rw [List.mem_cons]
    exact ⟨.inr,fun k=>k.elim (fun q=>.inl (q.trans h.symm)) id⟩
   ·simp only [List.mem_cons]
theorem ZKB (n:Int):∀ (l:List Int),l.Pairwise (· < ·)→(insR n l).Pairwise (· < ·)
 | [],_=>List.pairwise_singleton _ _
 | y::r,h=>by
  rw [List.pairwise_cons] at h
  unfold insR
  split
  ·rename_i hy
   rw [List.pairwise_cons]
   refine ⟨fun x hx=>?_,ZKB n r h.2⟩
   rcases (ZGB n r x).1 hx with rfl | k
   ·exact hy
   ·exact h.1 x k
  ·split
   ·exact List.pairwise_cons.2 h
   ·rw [List.pairwise_cons]
    refine ⟨fun x hx=>?_,List.pairwise_cons.2 h⟩
    rcases List.mem_cons.1 hx with rfl | k
    ·omega
    ·have:=h.1 x k;omega
theorem ZNx (n:Int):∀ l:List Int,(insR n l).length≤l.length+1
 | []=>by simp [insR]
 | y::r=>by
  unfold insR
  have:=ZNx n r
  split
  ·simp only [List.length_cons];omega
  ·split<;>simp
def Zib (n:Int):List Int→Nat
 | []=>0
 | x::r=>if x<n then Zib n r+1 else 0
theorem ZQx (n:Int):∀ l:List Int,Zib n l≤l.length∧insR n l=(if l[Zib n l]? = some n then l else l.take (Zib n l)++[n]++l.drop (Zib n l))
 | []=>⟨Nat.le_refl _,rfl⟩
 | x::r=>by
  obtain ⟨h1,h2⟩:=ZQx n r
  unfold Zib insR
  by_cases hx:x<n
  ·rw [if_pos hx,if_pos hx,h2]
   refine ⟨by simp;omega,?_⟩
   simp only [List.getElem?_cons_succ,List.take_succ_cons,List.drop_succ_cons]
   split<;>simp
  ·rw [if_neg hx,if_neg hx]
   refine ⟨Nat.zero_le _,?_⟩
   simp only [List.getElem?_cons_zero,Option.some.injEq,List.take_zero,List.drop_zero]
   split<;>simp
theorem ZSO (n:Int) (L:List Int):∀ (l:List Int) (j:Nat),j+l.length=L.length→Zq (fun i s d=>Kx n L i d) (fun s=>Zjo n L) j l ()=some (L,n,((j+Zib n l:Nat):Int))
 | [],j,h=>by
  have:j=L.length:=by simpa using h
  subst this
  rfl
 | d::r,j,h=>by
  rw [List.length_cons] at h
  by_cases hd:d<n
  ·rw [QB (s':=()) (by unfold Kx;rw [dT0 hd];rfl),ZSO n L r (j+1) (by omega)]
   simp only [Zib,if_pos hd]
   rw [show j+1+Zib n r=j+(Zib n r+1) by omega]
  ·have e:Kx n L j d=some (.inr (L,n,(j:Int))):=by unfold Kx;rw [dF0 hd];rfl
   simp only [Zq,e]
   unfold Zib
   rw [if_neg hd];rfl
theorem Z0Q {n:Nat} (h:n≤100000):decide ((n+1)*8≤lim)=true:=dT0 (by unfold lim;omega)
theorem Zj0 (l:List Int) (n:Int) (hl:l.length≤10000):Zcp l n=some (layS l n):=by
 unfold Zcp layS Zj
 rw [Qc n]
 cases fitB n
 ·rfl
 simp only [Zc,Bool.not_true,cond_false,cond_true]
 have:=ZDC n l () (by omega)
 rw [this]
 unfold ZjM
 rw [ZSO n l l 0 (by simp),Nat.zero_add]
 obtain ⟨h1,h2⟩:=ZQx n l
 rw [h2]
 generalize Zib n l=p at h1
 have c0:decide ((0:Int)≤0∧0≤(p:Int)∧(p:Int)≤(l.length:Int))=true:=dT0 (by omega)
 have c1:decide (0≤(p:Int)∧(p:Int)≤(l.length:Int)∧(l.length:Int)≤(l.length:Int))=true:=dT0 (by omega)
 have l1:∀ k,k≤30000→decide ((k+1)*8≤lim)=true:=fun k hk=>Z0Q (by omega)
 have t1:(List.drop (Int.toNat 0) (List.take p l)).length≤10000:=by simp;omega
 have t2:(List.drop p (List.take l.length l)).length≤10000:=by simp;omega
 have fin:∀ (q:Option (List Int)),q=some ([]++List.drop (Int.toNat 0) (List.take p l)++[n]++List.drop p (List.take l.length l))→q=some (List.take p l++[n]++List.drop p l):=fun q hq=>by rw [hq];simp
 by_cases hp:p<l.length
 ·have e1:decide ((p:Int)<(l.length:Int))=true:=dT0 (by omega)
  have e2:decide (0≤(p:Int))=true:=dT0 (by omega)
  have e3:l[p]? = some l[p]:=List.getElem?_eq_getElem hp
  by_cases hn:l[p]=n
  ·simp only [Zc,e1,e2,e3,cond_true,tN0,hn,beq_self_eq_true,if_true]
  ·have e4:(l[p]==n)=false:=by simpa using hn
   rw [e3,if_neg (fun k=>hn (Option.some.inj k))]
   apply fin
   simp only [Zc,e1,e2,e3,e4,c0,c1,cond_true,cond_false,tN0]
   rw [l1 _ (by simp;omega),l1 _ (by simp;omega),l1 _ (by simp;omega)]
   rfl
 ·have e1:decide ((p:Int)<(l.length:Int))=false:=dF0 (by omega)
  have e3:l[p]? = none:=List.getElem?_eq_none (by omega)
  rw [e3,if_neg (fun k=>nomatch k)]
  apply fin
  simp only [Zc,e1,c0,c1,cond_true,cond_false,tN0]
  rw [l1 _ (by simp;omega),l1 _ (by simp;omega),l1 _ (by simp;omega)]
  rfl
section
section
variable [RT] {P:Program}
def rowT1 (t:Nat) (x:Tm×Hp):Tm×Hp:=match getT x.1 t with
 | .row id=>match Zm x.2.blks id with
  | some (.row e l)=>((t,.sl e l)::x.1,⟨delB x.2.blks id,x.2.c⟩)
  | _=>x
 | _=>x
section
variable {ok:Nat→Prop} {hdr0 hdr:Nat→Value} {S0 S:Stb} {h0 h:Hp} {w0 w:World} {a0 a:Act} {T:Tm}
def rowB1 (id j:Nat) (h:Hp):Hp:=match Zm h.blks id with
 | some (.box cs)=>match cs[j]? with
  | some (.row k)=>match Zm h.blks k with
   | some (.row e l)=>⟨setB (delB h.blks k) id (.box (cs.set j (.sl e l))),h.c⟩
   | _=>h
  | _=>h
 | _=>h
theorem ZOd {hdr:Nat→Value} {S:Stb} {b:AV}:∀ {cs:List AV} {vs:List Value} (j:Nat),VReps hdr S cs vs→(∀ v,vs[j]? = some v→VRep hdr S b v)→VReps hdr S (cs.set j b) vs
 | _,_,_,.nil,_=>.nil
 | _,_,0,.cons a v aZs vs h h',k=>.cons b v aZs vs (k v rfl) h'
 | _,_,j+1,.cons a v aZs vs h h',k=>.cons a v _ vs h (ZOd j h' k)
theorem ZKA {b:AV} (hb:b.ids=[]):∀ (cs:List AV) (j n:Nat),n∈AV.idsL (cs.set j b)→n∈AV.idsL cs
 | [],_,_,h=>h
 | a::r,0,n,h=>by
  simp only [List.set_cons_zero,AV.idsL,hb,List.nil_append] at h
  simp only [AV.idsL,List.mem_append];exact .inr h
 | a::r,j+1,n,h=>by
  simp only [List.set_cons_succ,AV.idsL,List.mem_append] at h ⊢
  exact h.imp id (ZKA hb r j n)
theorem Left.rowB1 (l:Left P false ok hdr0 S0 h0 w0 a0 h T hdr S a w) (id j:Nat):∃ S',Left P false ok hdr0 S0 h0 w0 a0 (Go.Proofs.YtbdcblpjemmipaaGreat.Ex.rowB1 id j h) T hdr S' a w:=by
 unfold Go.Proofs.YtbdcblpjemmipaaGreat.Ex.rowB1
 split
 case h_2=>exact ⟨S,l⟩
 rename_i cs hf
 split
 case h_2=>exact ⟨S,l⟩
 rename_i k hk
 split
 case h_2=>exact ⟨S,l⟩
 rename_i e x hx
 have hne:id≠k:=fun q=>by rw [q,hx] at hf;cases hf
 obtain ⟨S',p,hd⟩:=ZrD (tr:=false) l.post.real l.post.ment hx
 have hb:=l.post.real.blk id _ hf
 cases hb with | box _ b vs et hh hw hr=>
 have hf2:Zm (delB h.blks k) id=some (.box cs):=by rw [ZaH,if_neg hne];exact hf
 have hr2:VReps hdr S' (cs.set j (.sl e x)) vs:=ZOd j (hr.mono p.step.sle fun _ _=>rfl) fun v hv=>by
  obtain ⟨v',hv',hrep⟩:=hr.get j _ hk
  rw [hv] at hv';cases hv'
  cases hrep with | row _ ao len cap hh2=>
  rw [hh2] at hd
  exact .sl e x _ hd
 have p2:=Zk7 (tr:=false) p.real p.ment id (.box (cs.set j (.sl e x))) _ hf2 (fun n hn=>.inl ((l.post.ment id _ hf).2 n (ZKA rfl cs j n hn))) w b (by rw [hh];rfl) rfl rfl rfl rfl (fun _ _=>rfl) (.box _ b vs et hh hw hr2)
 refine ⟨S',l.trans ⟨p.trans p2,fun s=>(l.tmps s).mono p.step.sle fun _ _=>rfl,fun s n hn=>.inl (l.tok s n hn),rfl,rfl⟩⟩
end
end
end
abbrev YC:=((List Int)×Int×(List Int)×(List Int)×Int×(List C))
abbrev Jj:=((List Int)×(List Int)×(List Int)×Int×(List C))
def VY (s3:List Int) (s4:Int) (b0 b0_1:List Int) (b0_2:Int) (b0_3:List C):Option (((List Int)×Int×(List Int)×(List Int)×Int×(List C))⊕((List Int)×(List Int)×(List Int)×Int×(List C))):=bif decide (s4<(b0.length:Int)) then bif decide (0≤s4) then Za b0[s4.toNat]? none fun d11=>Za (J9 (s3,d11,())) none fun d12=>some (.inl (d12,IntKind.i64.wrap (s4+1),b0,b0_1,b0_2,b0_3)) else none else some (.inr (s3,b0,b0_1,b0_2,b0_3))
def Zm6:YC→Option (YC⊕Jj):=fun (a,b,c,d,e,f)=>VY a b c d e f
def WM (x:YC):Option Jj:=Zn Zm6 Zr x
abbrev YD:=((List Int)×Int×(List Int)×(List Int)×Int×(List C))
abbrev Jk:=((List Int)×(List Int)×(List Int)×Int×(List C))
def VZ (s3:List Int) (s5:Int) (b0 b0_1:List Int) (b0_2:Int) (b0_3:List C):Option (((List Int)×Int×(List Int)×(List Int)×Int×(List C))⊕((List Int)×(List Int)×(List Int)×Int×(List C))):=bif decide (s5<(b0_1.length:Int)) then bif decide (0≤s5) then Za b0_1[s5.toNat]? none fun d11=>Za (J9 (s3,d11,())) none fun d12=>bif decide (0≤s5) then Za b0_1[s5.toNat]? none fun d13=>Za (J9 (d12,IntKind.i64.wrap (d13 - 1),())) none fun d14=>some (.inl (d14,IntKind.i64.wrap (s5+1),b0,b0_1,b0_2,b0_3)) else none else none else some (.inr (s3,b0,b0_1,b0_2,b0_3))
def Zm7:YD→Option (YD⊕Jk):=fun (a,b,c,d,e,f)=>VZ a b c d e f
def WN (x:YD):Option Jk:=Zn Zm7 Zr x
abbrev YE:=((List Int)×Int×Int×(List Int)×(List Int)×Int×(List C))
abbrev Zby:=((List Int)×Int×(List Int)×(List Int)×Int×(List C))
def K7 (s3:List Int) (s6 s7:Int) (b0 b0_1:List Int) (b0_2:Int) (b0_3:List C):Option (((List Int)×Int×Int×(List Int)×(List Int)×Int×(List C))⊕((List Int)×Int×(List Int)×(List Int)×Int×(List C))):=bif decide (0≤s6) then Za b0_3[s6.toNat]? none fun d12=>bif decide (s7<(List.length d12.2:Int)) then bif decide (0≤s6) then Za b0_3[s6.toNat]? none fun d13=>bif decide (0≤s7) then Za d13.2[s7.toNat]? none fun d14=>bif d14.1==1 then Za (J9 (s3,d14.2.2.2.2.2.1,())) none fun d15=>Za (J9 (d15,IntKind.i64.wrap (d14.2.2.2.2.2.1 - 1),())) none fun d16=>Za (J9 (d16,IntKind.i64.wrap (d14.2.2.2.2.2.1+1),())) none fun d17=>some (.inl (d17,s6,IntKind.i64.wrap (s7+1),b0,b0_1,b0_2,b0_3)) else some (.inl (s3,s6,IntKind.i64.wrap (s7+1),b0,b0_1,b0_2,b0_3)) else none else none else some (.inr (s3,s6,b0,b0_1,b0_2,b0_3)) else none
def ZcF:YE→Option (YE⊕Zby):=fun (a,b,c,d,e,f,g)=>K7 a b c d e f g
def WO (x:YE):Option Zby:=Zn ZcF Zr x
abbrev WX:=((List Int)×Int×(List Int)×(List Int)×Int×(List C))
abbrev Zbx:=(List Int)
def ZhT (s3:List Int) (s6:Int) (b0 b0_1:List Int) (b0_2:Int) (b0_3:List C):Option (((List Int)×Int×(List Int)×(List Int)×Int×(List C))⊕(List Int)):=bif decide (s6<(b0_3.length:Int)) then Za (WO (s3,s6,0,b0,b0_1,b0_2,b0_3)) none fun d11=>some (.inl (d11.1,IntKind.i64.wrap (d11.2.1+1),d11.2.2.1,d11.2.2.2.1,d11.2.2.2.2.1,d11.2.2.2.2.2)) else some (.inr s3)
def V1:WX→Option (WX⊕Zbx):=fun (a,b,c,d,e,f)=>ZhT a b c d e f
def Zdr (x:WX):Option Zbx:=Zn V1 Zr x
def Zmr (a0:U):Option (List Int):=Za (WM ([-1,0,1],0,a0)) none fun d6=>Za (WN (d6.1,0,d6.2)) none fun d7=>Za (Zdr (d7.1,0,d7.2)) none fun d8=>some d8
def ZlT (x:U×Unit):Option (List Int):=Zmr x.1
def Zcm (b0_1:List Int) (b0_2:Int) (b0_3:List C) (b0:List Int) (i:Nat) (s3:List Int) (d:Int):Option ((List Int)⊕Jj):=
 Za (J9 (s3,d,())) (none) fun d12=>
  some (.inl (d12))
def Zmj (b0_1:List Int) (b0_2:Int) (b0_3:List C) (b0 s3:List Int):Option Jj:=
 some (s3,b0,b0_1,b0_2,b0_3)
abbrev Zzw (b0_1:List Int) (b0_2:Int) (b0_3:List C) (b0:List Int) (i:Nat) (s:List Int):YC:=(s,(i:Int),b0,b0_1,b0_2,b0_3)
def ZhF (b0_1:List Int) (b0_2:Int) (b0_3:List C) (b0 s:List Int):Option Jj:=Zq (fun i s d=>Zcm b0_1 b0_2 b0_3 b0 i s d) (fun s=>Zmj b0_1 b0_2 b0_3 b0 s) 0 b0 s
theorem Zzh (b0_1:List Int) (b0_2:Int) (b0_3:List C) (b0 s:List Int) (hl:b0.length<9223372036854775807):WM (s,0,b0,b0_1,b0_2,b0_3)=ZhF b0_1 b0_2 b0_3 b0 s:=by
 unfold WM ZhF
 refine Zs b0 (Zzw b0_1 b0_2 b0_3 b0) _ _ ?_ ?_ s (by unfold Zr;omega)
 ·intro i s d hi hd
  have e1:decide ((i:Int)<(b0.length:Int))=true:=dT0 (by omega)
  have e2:decide (0≤(i:Int))=true:=dT0 (by omega)
  have e3:Int.toNat (i:Int)=i:=tN0 i
  have e4:=Zu hi (Nat.le_of_lt hl)
  show VY (s) ((i:Int)) (b0) (b0_1) (b0_2) (b0_3)=upd _ (Zcm b0_1 b0_2 b0_3 b0 i s d)
  unfold VY Zcm
  simp only [e1,e2,e3,e4,hd,cond_true,cond_false,Zc,ZD,ZG,ZE,ZK,ZL,ZF]
 ·intro s
  have e1:decide ((b0.length:Int)<(b0.length:Int))=false:=dF0 (by omega)
  show VY (s) ((b0.length:Int)) (b0) (b0_1) (b0_2) (b0_3)=_
  unfold VY Zmj
  rw [e1]
  rfl
def Zcn (b0:List Int) (b0_2:Int) (b0_3:List C) (b0_1:List Int) (i:Nat) (s3:List Int) (d:Int):Option ((List Int)⊕Jk):=
 Za (J9 (s3,d,())) (none) fun d12=>
  Za (J9 (d12,IntKind.i64.wrap (d - 1),())) (none) fun d14=>
  some (.inl (d14))
def Zmk (b0:List Int) (b0_2:Int) (b0_3:List C) (b0_1 s3:List Int):Option Jk:=
 some (s3,b0,b0_1,b0_2,b0_3)
abbrev Zzx (b0:List Int) (b0_2:Int) (b0_3:List C) (b0_1:List Int) (i:Nat) (s:List Int):YD:=(s,(i:Int),b0,b0_1,b0_2,b0_3)
def ZhG (b0:List Int) (b0_2:Int) (b0_3:List C) (b0_1 s:List Int):Option Jk:=Zq (fun i s d=>Zcn b0 b0_2 b0_3 b0_1 i s d) (fun s=>Zmk b0 b0_2 b0_3 b0_1 s) 0 b0_1 s
theorem Zzi (b0:List Int) (b0_2:Int) (b0_3:List C) (b0_1 s:List Int) (hl:b0_1.length<9223372036854775807):WN (s,0,b0,b0_1,b0_2,b0_3)=ZhG b0 b0_2 b0_3 b0_1 s:=by
 unfold WN ZhG
 refine Zs b0_1 (Zzx b0 b0_2 b0_3 b0_1) _ _ ?_ ?_ s (by unfold Zr;omega)
 ·intro i s d hi hd
  have e1:decide ((i:Int)<(b0_1.length:Int))=true:=dT0 (by omega)
  have e2:decide (0≤(i:Int))=true:=dT0 (by omega)
  have e3:Int.toNat (i:Int)=i:=tN0 i
  have e4:=Zu hi (Nat.le_of_lt hl)
  show VZ (s) ((i:Int)) (b0) (b0_1) (b0_2) (b0_3)=upd _ (Zcn b0 b0_2 b0_3 b0_1 i s d)
  unfold VZ Zcn
  simp only [e1,e2,e3,e4,hd,cond_true,cond_false,Zc,ZD,ZG,ZE,ZK,ZL,ZF]
 ·intro s
  have e1:decide ((b0_1.length:Int)<(b0_1.length:Int))=false:=dF0 (by omega)
  show VZ (s) ((b0_1.length:Int)) (b0) (b0_1) (b0_2) (b0_3)=_
  unfold VZ Zmk
  rw [e1]
  rfl
theorem Zfm (l:List Int) (n:Int):(layS l n).length≤l.length+1:=by
 unfold layS
 cases fitB n
 ·simp
 ·exact ZNx n l
theorem ZSN {l:List Int} (h:l.Pairwise (· < ·)) (n:Int):(layS l n).Pairwise (· < ·):=by
 unfold layS
 cases fitB n
 ·exact h
 ·exact ZKB n l h
theorem ZUo (l:List Int) (n x:Int):x∈layS l n↔(x=n∧fitB n=true)∨x∈l:=by
 unfold layS
 cases h:fitB n
 ·simp
 ·simp [ZGB]
theorem ZGE:∀ (es l:List Int),(es.foldl layS l).length≤l.length+es.length
 | [],l=>Nat.le_refl _
 | e::r,l=>by
  have:=ZGE r (layS l e)
  have:=Zfm l e
  simp only [List.foldl_cons,List.length_cons];omega
theorem ZKE:∀ (es:List Int) {l:List Int},l.Pairwise (· < ·)→(es.foldl layS l).Pairwise (· < ·)
 | [],_,h=>h
 | e::r,_,h=>ZKE r (ZSN h e)
theorem ZNK (x:Int):∀ (es l:List Int),x∈es.foldl layS l↔(x∈es∧fitB x=true)∨x∈l
 | [],l=>by simp
 | e::r,l=>by
  rw [List.foldl_cons,ZNK x r,ZUo,List.mem_cons]
  constructor
  ·rintro (⟨h,k⟩ | ⟨rfl,k⟩ | h)
   ·exact .inl ⟨.inr h,k⟩
   ·exact .inl ⟨.inl rfl,k⟩
   ·exact .inr h
  ·rintro (⟨rfl | h,k⟩ | h)
   ·exact .inr (.inl ⟨rfl,k⟩)
   ·exact .inl ⟨h,k⟩
   ·exact .inr (.inr h)
def actS (l:List Int) (a:A):List Int:=bif a.1==1 then layS (layS (layS l a.2.2.2.2.2.1) (a.2.2.2.2.2.1 - 1)) (a.2.2.2.2.2.1+1) else l
theorem ZMw (l:List Int) (a:A):(actS l a).length≤l.length+3:=by
 unfold actS
 have h1:=Zfm l a.2.2.2.2.2.1
 have h2:=Zfm (layS l a.2.2.2.2.2.1) (a.2.2.2.2.2.1 - 1)
 have h3:=Zfm (layS (layS l a.2.2.2.2.2.1) (a.2.2.2.2.2.1 - 1)) (a.2.2.2.2.2.1+1)
 cases a.1==1
 ·simp only [cond_false];omega
 ·simp only [cond_true];omega
theorem ZMx:∀ (r:List A) (l:List Int),(r.foldl actS l).length≤l.length+3*r.length
 | [],l=>by simp
 | a::r,l=>by
  have:=ZMx r (actS l a)
  have:=ZMw l a
  simp only [List.foldl_cons,List.length_cons];omega
theorem ZV6 (u:U) (l:List Int) (h:l.length+u.1.length≤10000):WM (l,0,u)=some (u.1.foldl layS l,u):=by
 have:=Zzh u.2.1 u.2.2.1 u.2.2.2 u.1 l (by omega)
 refine this.trans ?_
 unfold ZhF
 rw [ZeR (g:=layS) (fun s r=>s.length+r.length≤10000) (fun j s d r h=>?_) u.1 0 l h]
 ·rfl
 ·rw [List.length_cons] at h
  have:=Zfm s d
  refine ⟨?_,by omega⟩
  have e1:=Zj0 s d (by omega)
  simp only [Zcm,J9,e1,Zc]
def arrS (l:List Int) (d:Int):List Int:=layS (layS l d) (d - 1)
theorem ZMy (l:List Int) (d:Int):(arrS l d).length≤l.length+2:=by
 unfold arrS
 have h1:=Zfm l d
 have h2:=Zfm (layS l d) (d - 1)
 omega
theorem ZYv (u:U) (l:List Int) (hu:∀ n∈u.2.1,1≤n∧n≤16) (h:l.length+2*u.2.1.length≤10000):WN (l,0,u)=some (u.2.1.foldl arrS l,u):=by
 have:=Zzi u.1 u.2.2.1 u.2.2.2 u.2.1 l (by omega)
 refine this.trans ?_
 unfold ZhG
 rw [ZeR (g:=arrS) (fun s r=>s.length+2*r.length≤10000∧∀ n∈r,1≤n∧n≤16) (fun j s d r h=>?_) u.2.1 0 l ⟨h,hu⟩]
 ·rfl
 ·have h':=h.1
  rw [List.length_cons] at h'
  have h1:=Zfm s d
  have h2:=ZMy s d
  have hd:=h.2 d (by simp)
  refine ⟨?_,by omega,fun n hn=>h.2 n (by simp [hn])⟩
  have w:IntKind.i64.wrap (d - 1)=d - 1:=Zev (by omega) (by omega)
  have e1:=Zj0 s d (by omega)
  have e2:=Zj0 (layS s d) (d - 1) (by omega)
  simp only [Zcn,J9,w,e1,e2,Zc]
  rfl
def bodyA {Y:Type} (s:List Int) (a:A):Option (List Int⊕Y):=bif a.1==1 then Za (Zcp s a.2.2.2.2.2.1) none fun p=>Za (Zcp p (IntKind.i64.wrap (a.2.2.2.2.2.1 - 1))) none fun q=>Za (Zcp q (IntKind.i64.wrap (a.2.2.2.2.2.1+1))) none fun r=>some (.inl r) else some (.inl s)
theorem ZT3 {Y:Type} {s:List Int} {a:A} (h:s.length≤9000) (hf:fitB a.2.2.2.2.2.1=true):(bodyA s a:Option (List Int⊕Y))=some (.inl (actS s a)):=by
 have f:=Jw.1 hf
 have w1:IntKind.i64.wrap (a.2.2.2.2.2.1 - 1)=a.2.2.2.2.2.1 - 1:=Zev (by omega) (by omega)
 have w2:IntKind.i64.wrap (a.2.2.2.2.2.1+1)=a.2.2.2.2.2.1+1:=Zev (by omega) (by omega)
 have h1:=Zfm s a.2.2.2.2.2.1
 have h2:=Zfm (layS s a.2.2.2.2.2.1) (a.2.2.2.2.2.1 - 1)
 have e1:=Zj0 s a.2.2.2.2.2.1 (by omega)
 have e2:=Zj0 (layS s a.2.2.2.2.2.1) (a.2.2.2.2.2.1 - 1) (by omega)
 have e3:=Zj0 (layS (layS s a.2.2.2.2.2.1) (a.2.2.2.2.2.1 - 1)) (a.2.2.2.2.2.1+1) (by omega)
 unfold bodyA actS
 cases a.1==1
 ·rfl
 ·simp only [cond_true,w1,w2,e1,e2,e3,Zc]
theorem ZV5 (u:U) (c:C) {i:Nat} (hc:u.2.2.2[i]? = some c) (hf:∀ a∈c.2,fitB a.2.2.2.2.2.1=true) (hn:c.2.length≤60) (l:List Int) (h:l.length≤8000) :
  WO (l,(i:Int),0,u)=some (c.2.foldl actS l,(i:Int),u):=by
 unfold WO
 have e0:decide (0≤(i:Int))=true:=dT0 (by omega)
 have:=Zs (step:=fun x:YE=>K7 x.1 x.2.1 x.2.2.1 x.2.2.2.1 x.2.2.2.2.1 x.2.2.2.2.2.1 x.2.2.2.2.2.2) c.2 (fun j s=>(s,(i:Int),(j:Int),u.1,u.2.1,u.2.2.1,u.2.2.2)) (fun _ s a=>bodyA s a) (fun s=>some (s,(i:Int),u.1,u.2.1,u.2.2.1,u.2.2.2)) ?_ ?_ l (n:=Zr) (by unfold Zr;omega)
 ·refine this.trans ?_
  rw [ZeR (g:=actS) (fun s r=>s.length+3*r.length≤9000∧∀ a∈r,fitB a.2.2.2.2.2.1=true) (fun j s d r h=>?_) c.2 0 l ⟨by omega,hf⟩]
  have h1:=h.1
  rw [List.length_cons] at h1
  have:=ZMw s d
  exact ⟨ZT3 (by omega) (h.2 d (by simp)),by omega,fun a ha=>h.2 a (by simp [ha])⟩
 ·intro j s d hj hd
  show K7 s (i:Int) (j:Int) u.1 u.2.1 u.2.2.1 u.2.2.2=_
  have w:=Zu (i:=j) (n:=c.2.length) hj (by omega)
  have e1:decide ((j:Int)<(c.2.length:Int))=true:=dT0 (by omega)
  have e2:decide (0≤(j:Int))=true:=dT0 (by omega)
  simp only [ZcF,K7,e0,e1,e2,cond_true,tN0,hc,hd,Zc,w,J9,bodyA]
  cases d.1==1
  ·rfl
  ·simp only [cond_true]
   cases Zcp s d.2.2.2.2.2.1 with
   | none=>rfl
   | some p=>
    simp only [Zc]
    cases Zcp p (IntKind.i64.wrap (d.2.2.2.2.2.1 - 1)) with
    | none=>rfl
    | some q=>
     simp only [Zc]
     cases Zcp q (IntKind.i64.wrap (d.2.2.2.2.2.1+1))<;>rfl
 ·intro s
  show K7 s (i:Int) (c.2.length:Int) u.1 u.2.1 u.2.2.1 u.2.2.2=_
  have e1:decide ((c.2.length:Int)<(c.2.length:Int))=false:=dF0 (by omega)
  simp only [ZcF,K7,e0,e1,cond_true,cond_false,tN0,hc,Zc]
  rfl
def thrS (l:List Int) (c:C):List Int:=c.2.foldl actS l
theorem ZYw (u:U) (hu:unitOK u) (l:List Int) (h:l.length≤7000):Zdr (l,0,u)=some (u.2.2.2.foldl thrS l):=by
 have ht:=hu.t
 have go:∀ (r:List C) (i:Nat) (s:List Int) (k:Nat),u.2.2.2.drop i=r→i+r.length=u.2.2.2.length→s.length+180*r.length≤8000→
   Zn V1 (k+r.length+1) (s,(i:Int),u)=some (r.foldl thrS s):=by
  intro r
  induction r with
  | nil=>
   intro i s k hd hi hs
   have e:decide ((i:Int)<(u.2.2.2.length:Int))=false:=dF0 (by simp at hi;omega)
   simp only [Zn,V1,ZhT,e,cond_false]
   rfl
  | cons c r ih=>
   intro i s k hd hi hs
   rw [List.length_cons] at hi hs ⊢
   have hc:u.2.2.2[i]? = some c:=by
    have:=congrArg (fun q=>q[0]?) hd
    simpa using this
   have ho:=hu.ts c (mG0 hc)
   have e:decide ((i:Int)<(u.2.2.2.length:Int))=true:=dT0 (by omega)
   have w:=Zu (i:=i) (n:=u.2.2.2.length) (by omega) (by omega)
   have a1:=ZV5 u c hc (fun a ha=>(ho.a a ha).n) ho.n.2 s (by omega)
   have a2:=ZMx c.2 s
   have:=ho.n.2
   rw [show k+(r.length+1)+1=(k+r.length+1)+1 by omega,Zn]
   have a1':WO (s,(i:Int),0,u.1,u.2.1,u.2.2.1,u.2.2.2)=some (c.2.foldl actS s,(i:Int),u):=a1
   simp only [V1,ZhT,e,cond_true,a1',Zc,w]
   exact ih (i+1) (thrS s c) k (by rw [← List.drop_drop,hd];rfl) (by omega) (by show (c.2.foldl actS s).length+_≤_;omega)
 unfold Zdr
 have:=go u.2.2.2 0 l (Zr - u.2.2.2.length - 1) rfl (by simp) (by omega)
 rw [show Zr - u.2.2.2.length - 1+u.2.2.2.length+1=Zr by unfold Zr;omega] at this
 exact this
def Zv (u:U):List Int:=u.2.2.2.foldl thrS (u.2.1.foldl arrS (u.1.foldl layS [-1,0,1]))
theorem ZMz:∀ (r l:List Int),(r.foldl arrS l).length≤l.length+2*r.length
 | [],l=>by simp
 | a::r,l=>by
  have:=ZMz r (arrS l a)
  have:=ZMy l a
  simp only [List.foldl_cons,List.length_cons];omega
theorem ZNY (u:U) (hu:unitOK u):Zmr u=some (Zv u):=by
 have g1:=hu.g
 have g2:=hu.a
 have l1:=ZGE u.1 [-1,0,1]
 have l2:=ZMz u.2.1 (u.1.foldl layS [-1,0,1])
 have l3:([-1,0,1]:List Int).length=3:=rfl
 unfold Zmr
 rw [ZV6 u [-1,0,1] (by omega)]
 simp only [Zc]
 rw [ZYv u _ (fun n hn=>hu.ars n hn) (by omega)]
 simp only [Zc]
 rw [ZYw u hu _ (by omega)]
 rfl
def numA (a:A):List Int:=bif a.1==1 then [a.2.2.2.2.2.1,a.2.2.2.2.2.1 - 1,a.2.2.2.2.2.1+1] else []
def numC (c:C):List Int:=c.2.flatMap numA
def numD (d:Int):List Int:=[d,d - 1]
def allN (u:U):List Int:=u.1++(u.2.1.flatMap numD++u.2.2.2.flatMap numC)
theorem ZtP {α:Type} {f:List Int→α→List Int} {g:α→List Int} (h:∀ l a,f l a=(g a).foldl layS l):∀ (r:List α) (l:List Int),r.foldl f l=(r.flatMap g).foldl layS l
 | [],l=>rfl
 | a::r,l=>by rw [List.foldl_cons,h,ZtP h r,List.flatMap_cons,List.foldl_append]
theorem ZzH (u:U):Zv u=(allN u).foldl layS [-1,0,1]:=by
 have h1:∀ (l:List Int) (a:A),actS l a=(numA a).foldl layS l:=fun l a=>by
  unfold actS numA
  cases a.1==1<;>rfl
 have h2:∀ (l:List Int) (c:C),thrS l c=(numC c).foldl layS l:=fun l c=>ZtP h1 c.2 l
 unfold Zv allN
 rw [List.foldl_append,List.foldl_append,ZtP h2,ZtP (f:=arrS) (g:=numD) fun l d=>rfl]
theorem ZR6 (u:U):(Zv u).Pairwise (· < ·):=by
 rw [ZzH]
 exact ZKE _ (by simp)
theorem ZD3 (u:U) (x:Int):x∈Zv u↔(x∈allN u∧fitB x=true)∨x∈([-1,0,1]:List Int):=by rw [ZzH,ZNK]
def ZLe:List Sh:=[.dat tU]
def Zqp:Nat→List Nat:=fun c=>bif c.beq 0 then [1,3,15,16,17] else [1,3]
def Zqr:Nat→List Nat:=fun c=>bif c.beq 0 then [3,29,30,31,36,37,38] else [3,29,30,31]
def Zqq:Nat→List Nat:=fun c=>bif c.beq 0 then [3,29,30,31] else [3]
def Zo5:Nat→List Nat:=fun c=>bif c.beq 0 then [0,1,7,8] else [4]
def Zqs:Nat→List Nat:=fun c=>bif c.beq 0 then [0,1,5,6] else [0,5]
def YT:List Con:=[⟨70,Znk,ZBZ⟩,⟨71,ZkB,Zvz⟩]
def ZeY:StS:=⟨[(1,.ptr 0 0),(3,.row 1),(15,.sl (.int .i64)),(16,.int .i64),(17,.int .i64)],[(0,.box [.sl (.int .i64),.sl (.int .i64),.int .i64,.sl tC]),(1,.row (.int .i64))],2⟩
def V5:StS:=⟨[(1,.ptr 0 0),(3,.row 1)],[(0,.box [.sl (.int .i64),.sl (.int .i64),.int .i64,.sl tC]),(1,.row (.int .i64))],2⟩
abbrev Hn:=((List Int)×Int×Int×(List Int)×(List Int)×Int×(List C)×(List Int))
def ZAT:StD ZeY→Hn:=fun ((_,_,a,b,c,_),((d,e,f,g,_),h,_))=>(a,b,c,d,e,f,g,h)
def ZB0:Hn→StD ZeY:=fun (a,b,c,d,e,f,g,h)=>(((),(),a,b,c,()),((d,e,f,g,()),h,()))
abbrev Jy:=((List Int)×(List Int)×Int×(List C)×(List Int))
def Zv1:StD V5→Jy:=fun ((_,_,_),((a,b,c,d,_),e,_))=>(a,b,c,d,e)
def ZgH:Jy→StD V5:=fun (a,b,c,d,e)=>(((),(),()),((a,b,c,d,()),e,()))
def W3 (s15:List Int) (s16 s17:Int) (b0 b0_1:List Int) (b0_2:Int) (b0_3:List C) (b1:List Int):Option (((List Int)×Int×Int×(List Int)×(List Int)×Int×(List C)×(List Int))⊕((List Int)×(List Int)×Int×(List C)×(List Int))):=bif decide (s17<s16) then bif decide (0≤s17) then Za s15[s17.toNat]? none fun d14=>bif decide ((b1.length+[d14,IntKind.i64.wrap (d14 - 1)].length+1)*8≤lim) then some (.inl (s15,s16,IntKind.i64.wrap (s17+1),b0,b0_1,b0_2,b0_3,b1++[d14,IntKind.i64.wrap (d14 - 1)])) else none else none else some (.inr (b0,b0_1,b0_2,b0_3,b1))
def ZnE:Hn→Option (Hn⊕Jy):=fun (a,b,c,d,e,f,g,h)=>W3 a b c d e f g h
def ZaS (x:Hn):Option Jy:=Zn ZnE Zr x
def Zsv:Nat→Tm→Prog (Nat×Tm):=(varP 0 (fun T h=>(rdS ZeY T h).map ZAT) ZaS (altE 2 V5 ZgH) (fun _ _=>.fail))
def QV:Lpc:=⟨43,0,64,(fun base T=>.norm base (Zqp 0) T (Zsv base)),by kernel_rfl,by kernel_rfl,(loopU YT [] 40 1048576 8 (keep:=Zqp) (q:=Zsv) (by kernel_rfl) (ZA (s:=ZeY) (un:=ZB0) (by rfl) (fun _=>rfl) (Zp (s:=V5) (un:=ZgH) (flat:=Zv1) (by rfl) (fun _=>rfl)) (step:=ZnE) (fun _=>by kernel_rfl) (fun _ _ e=>⟨_,e⟩) (Zo 2 V5 ZgH) (ZI.fail _ _)))⟩
abbrev ZTH:=cxU YT [QV] 40 1048576
def Ze0:StS:=⟨[(3,.row 0),(29,.sl tC),(30,.int .i64),(31,.int .i64),(36,.sl tA),(37,.int .i64),(38,.int .i64)],[(0,.row (.int .i64))],1⟩
def V7:StS:=⟨[(3,.row 0),(29,.sl tC),(30,.int .i64),(31,.int .i64)],[(0,.row (.int .i64))],1⟩
abbrev Ho:=((List C)×Int×Int×(List A)×Int×Int×(List Int))
def ZAV:StD Ze0→Ho:=fun ((_,a,b,c,d,e,f,_),(g,_))=>(a,b,c,d,e,f,g)
def ZB2:Ho→StD Ze0:=fun (a,b,c,d,e,f,g)=>(((),a,b,c,d,e,f,()),(g,()))
abbrev Jz:=((List C)×Int×Int×(List Int))
def Zv3:StD V7→Jz:=fun ((_,a,b,c,_),(d,_))=>(a,b,c,d)
def ZgJ:Jz→StD V7:=fun (a,b,c,d)=>(((),a,b,c,()),(d,()))
def J8 (s29:List C) (s30 s31:Int) (s36:List A) (s37 s38:Int) (b0:List Int):Option (((List C)×Int×Int×(List A)×Int×Int×(List Int))⊕((List C)×Int×Int×(List Int))):=bif decide (s38<s37) then bif decide (0≤s38) then Za s36[s38.toNat]? none fun d13=>bif d13.1==1 then bif decide ((b0.length+[IntKind.i64.wrap (d13.2.2.2.2.2.1 - 1),d13.2.2.2.2.2.1,IntKind.i64.wrap (d13.2.2.2.2.2.1+1)].length+1)*8≤lim) then some (.inl (s29,s30,s31,s36,s37,IntKind.i64.wrap (s38+1),b0++[IntKind.i64.wrap (d13.2.2.2.2.2.1 - 1),d13.2.2.2.2.2.1,IntKind.i64.wrap (d13.2.2.2.2.2.1+1)])) else none else some (.inl (s29,s30,s31,s36,s37,IntKind.i64.wrap (s38+1),b0)) else none else some (.inr (s29,s30,s31,b0))
def Zaf:Ho→Option (Ho⊕Jz):=fun (a,b,c,d,e,f,g)=>J8 a b c d e f g
def Hl (x:Ho):Option Jz:=Zn Zaf Zr x
def Zsx:Nat→Tm→Prog (Nat×Tm):=(varP 0 (fun T h=>(rdS Ze0 T h).map ZAV) Hl (altE 6 V7 ZgJ) (fun _ _=>.fail))
def Yj:Lpc:=⟨43,4,64,(fun base T=>.norm base (Zqr 0) T (Zsx base)),by kernel_rfl,by kernel_rfl,(loopU YT [QV] 40 1048576 8 (keep:=Zqr) (q:=Zsx) (by kernel_rfl) (ZA (s:=Ze0) (un:=ZB2) (by rfl) (fun _=>rfl) (Zp (s:=V7) (un:=ZgJ) (flat:=Zv3) (by rfl) (fun _=>rfl)) (step:=Zaf) (fun _=>by kernel_rfl) (fun _ _ e=>⟨_,e⟩) (Zo 6 V7 ZgJ) (ZI.fail _ _)))⟩
abbrev ZTG:=cxU YT [QV,Yj] 40 1048576
def ZeZ:StS:=⟨[(3,.row 0),(29,.sl tC),(30,.int .i64),(31,.int .i64)],[(0,.row (.int .i64))],1⟩
def V6:StS:=⟨[(3,.row 0)],[(0,.row (.int .i64))],1⟩
abbrev ZaY:=((List C)×Int×Int×(List Int))
def ZAU:StD ZeZ→ZaY:=fun ((_,a,b,c,_),(d,_))=>(a,b,c,d)
def ZB1:ZaY→StD ZeZ:=fun (a,b,c,d)=>(((),a,b,c,()),(d,()))
abbrev Zca:=(List Int)
def Zv2 (d:StD V6):Zca:=(d.2.1)
def ZgI (x:Zca):StD V6:=(((),()),(x,()))
def ZiM (s29:List C) (s30 s31:Int) (b0:List Int):Option (((List C)×Int×Int×(List Int))⊕(List Int)):=bif decide (s31<s30) then bif decide (0≤s31) then Za s29[s31.toNat]? none fun d10=>Za (Hl (s29,s30,s31,d10.2,(List.length d10.2:Int),0,b0)) none fun d11=>some (.inl (d11.1,d11.2.1,IntKind.i64.wrap (d11.2.2.1+1),d11.2.2.2)) else none else some (.inr b0)
def Zae:ZaY→Option (ZaY⊕Zca):=fun (a,b,c,d)=>ZiM a b c d
def Zez (x:ZaY):Option Zca:=Zn Zae Zr x
def Zsw:Nat→Tm→Prog (Nat×Tm):=(varP 0 (fun T h=>(rdS ZeZ T h).map ZAU) Zez (altE 4 V6 ZgI) (fun _ _=>.fail))
def ZbO:Lpc:=⟨43,2,64,(fun base T=>.norm base (Zqq 0) T (Zsw base)),by kernel_rfl,by kernel_rfl,(loopU YT [QV,Yj] 40 1048576 8 (keep:=Zqq) (q:=Zsw) (by kernel_rfl) (ZA (s:=ZeZ) (un:=ZB1) (by rfl) (fun _=>rfl) (Zp (s:=V6) (un:=ZgI) (flat:=Zv2) (by rfl) (fun _=>rfl)) (step:=Zae) (fun _=>by kernel_rfl) (fun _ _ e=>⟨_,e⟩) (Zo 4 V6 ZgI) (ZI.fail _ _)))⟩
abbrev ZSr:=cxU YT [QV,Yj,ZbO] 40 1048576
def ZdA:StS:=⟨[(0,.row 0),(1,.clo 68 [] []),(7,.int .i64),(8,.int .i64)],[(0,.row (.int .i64))],1⟩
def HO:StS:=⟨[(4,.undef)],[(0,.row (.int .i64))],1⟩
def HP:StS:=⟨[(4,.int .i64)],[(0,.row (.int .i64))],1⟩
abbrev Yq:=(Int×Int×(List Int))
def Zx1:StD ZdA→Yq:=fun ((_,(_,_),a,b,_),(c,_))=>(a,b,c)
def ZzJ:Yq→StD ZdA:=fun (a,b,c)=>(((),((),()),a,b,()),(c,()))
abbrev QY:=(List Int)
def Zuw (d:StD HO):QY:=(d.2.1)
def Zfr (x:QY):StD HO:=(((),()),(x,()))
abbrev QZ:=(Int×(List Int))
def Zux (d:StD HP):QZ:=(d.1.1,d.2.1)
def Zfs (x:QZ):StD HP:=((x.1,()),(x.2,()))
def JP (s7 s8:Int) (b0:List Int):Option ((Int×Int×(List Int))⊕((List Int)⊕(Int×(List Int)))):=bif decide (s8<s7) then bif decide (0≤s8) then Za b0[s8.toNat]? none fun d9=>Za b0[s8.toNat]? none fun d10=>bif decide (d10 < -2147483648) then some (.inr (.inr (s8,b0))) else bif decide (d10>2147483647) then some (.inr (.inr (s8,b0))) else some (.inl (s7,IntKind.i64.wrap (s8+1),b0)) else none else some (.inr (.inl b0))
def QC:Yq→Option (Yq⊕(QY⊕QZ)):=fun (a,b,c)=>JP a b c
def QS (x:Yq):Option (QY⊕QZ):=Zn QC Zr x
def ZqC:Nat→Tm→Prog (Nat×Tm):=(varP 1 (fun T h=>(rdS ZdA T h).map Zx1) QS (fun y=>.alt y (altE 2 HO Zfr) (altE 1 HP Zfs)) (fun _ _=>.fail))
def Zjy:Lpc:=⟨103,0,19,(fun base T=>.norm base (Zo5 0) T (ZqC base)),by kernel_rfl,by kernel_rfl,(loopU YT [QV,Yj,ZbO] 40 1048576 8 (keep:=Zo5) (q:=ZqC) (by kernel_rfl) (ZA (s:=ZdA) (un:=ZzJ) (by rfl) (fun _=>rfl) (Qh (Zp (s:=HO) (un:=Zfr) (flat:=Zuw) (by rfl) (fun _=>rfl)) (Zp (s:=HP) (un:=Zfs) (flat:=Zux) (by rfl) (fun _=>rfl))) (step:=QC) (fun _=>by kernel_rfl) (fun _ _ e=>⟨_,e⟩) (Qg (Zo 2 HO Zfr) (Zo 1 HP Zfs)) (ZI.fail _ _)))⟩
abbrev ZTI:=cxU YT [QV,Yj,ZbO,Zjy] 40 1048576
def Ze1:StS:=⟨[(0,.row 0),(1,.clo 68 [] []),(5,.int .i64),(6,.int .i64)],[(0,.row (.int .i64))],1⟩
def V8:StS:=⟨[(0,.row 0),(5,.int .i64)],[(0,.row (.int .i64))],1⟩
abbrev ZaZ:=(Int×Int×(List Int))
def ZAW:StD Ze1→ZaZ:=fun ((_,(_,_),a,b,_),(c,_))=>(a,b,c)
def ZB3:ZaZ→StD Ze1:=fun (a,b,c)=>(((),((),()),a,b,()),(c,()))
abbrev Zcb:=(Int×(List Int))
def Zv4 (d:StD V8):Zcb:=(d.1.2.1,d.2.1)
def ZgK (x:Zcb):StD V8:=(((),x.1,()),(x.2,()))
def ZiN (s5 s6:Int) (b0:List Int):Option ((Int×Int×(List Int))⊕(Int×(List Int))):=bif decide (s6<(b0.length:Int)) then bif decide (0≤s6) then Za b0[s6.toNat]? none fun d9=>Za b0[s6.toNat]? none fun d10=>bif decide (d10 < -2147483648) then some (.inl (s5,IntKind.i64.wrap (s6+1),b0)) else bif decide (d10>2147483647) then some (.inl (s5,IntKind.i64.wrap (s6+1),b0)) else bif decide (0≤s5) then Za b0[s5.toNat]? none fun d11=>Za b0[s5.toNat]? none fun d12=>some (.inl (IntKind.i64.wrap (s5+1),IntKind.i64.wrap (s6+1),b0.set s5.toNat d10)) else none else none else some (.inr (s5,b0))
def QU:ZaZ→Option (ZaZ⊕Zcb):=fun (a,b,c)=>ZiN a b c
def ZeA (x:ZaZ):Option Zcb:=Zn QU Zr x
def Zsy:Nat→Tm→Prog (Nat×Tm):=(varP 1 (fun T h=>(rdS Ze1 T h).map ZAW) ZeA (altE 2 V8 ZgK) (fun _ _=>.fail))
def ZEM:Lpc:=⟨67,0,42,(fun base T=>.norm base (Zqs 0) T (Zsy base)),by kernel_rfl,by kernel_rfl,(loopU YT [QV,Yj,ZbO,Zjy] 40 1048576 8 (keep:=Zqs) (q:=Zsy) (by kernel_rfl) (ZA (s:=Ze1) (un:=ZB3) (by rfl) (fun _=>rfl) (Zp (s:=V8) (un:=ZgK) (flat:=Zv4) (by rfl) (fun _=>rfl)) (step:=QU) (fun _=>by kernel_rfl) (fun _ _ e=>⟨_,e⟩) (Zo 2 V8 ZgK) (ZI.fail _ _)))⟩
def ZoH (a0:U):Option (List Int):=bif decide (([-1,0,1].length+List.length a0.1+1)*8≤lim) then Za (ZaS (a0.2.1,(List.length a0.2.1:Int),0,a0.1,a0.2.1,a0.2.2.1,a0.2.2.2,[-1,0,1]++a0.1)) none fun d7=>Za (Zez (d7.2.2.2.1,(d7.2.2.2.1.length:Int),0,d7.2.2.2.2)) none fun d8=>Za (QS ((d8.length:Int),0,d8)) none fun d9=>Sum.elim (fun e10=>bif decide (e10.length<4611686018427387904) then bif decide ((srtI e10).length<4611686018427387904) then some (List.drop 0 (List.take (Lib.compact (List.take (srtI e10).length (srtI e10))).length (cutI (srtI e10) (srtI e10).length))) else none else none) (fun e10=>bif e10.1 == -1 then bif decide (e10.2.length<4611686018427387904) then bif decide ((srtI e10.2).length<4611686018427387904) then some (List.drop 0 (List.take (Lib.compact (List.take (srtI e10.2).length (srtI e10.2))).length (cutI (srtI e10.2) (srtI e10.2).length))) else none else none else Za (ZeA (e10.1,IntKind.i64.wrap (e10.1+1),e10.2)) none fun d11=>bif decide (0≤d11.1∧d11.1≤(d11.2.length:Int)∧(d11.2.length:Int)≤(d11.2.length:Int)) then bif decide ((d11.2.length:Int).toNat≤d11.1.toNat) then bif decide ((0:Int)≤0∧0≤d11.1∧d11.1≤(d11.2.length:Int)) then bif decide (d11.1.toNat≤d11.2.length∧d11.2.length<4611686018427387904) then bif decide (d11.1.toNat≤(srtI (List.take d11.1.toNat d11.2)++List.drop d11.1.toNat d11.2).length∧(srtI (List.take d11.1.toNat d11.2)++List.drop d11.1.toNat d11.2).length<4611686018427387904) then some (List.drop 0 (List.take (Lib.compact (List.take d11.1.toNat (srtI (List.take d11.1.toNat d11.2)++List.drop d11.1.toNat d11.2))).length
 (cutI (srtI (List.take d11.1.toNat d11.2)++List.drop d11.1.toNat d11.2) d11.1.toNat))) else none else none else none else bif decide ((d11.2.length:Int).toNat≤d11.2.length) then bif decide ((0:Int)≤0∧0≤d11.1∧d11.1≤(↑(List.take d11.1.toNat d11.2++List.replicate ((d11.2.length:Int).toNat - d11.1.toNat) 0++List.drop (d11.2.length:Int).toNat d11.2).length:Int)) then bif decide (d11.1.toNat≤(List.take d11.1.toNat d11.2++List.replicate ((d11.2.length:Int).toNat - d11.1.toNat) 0++List.drop (d11.2.length:Int).toNat d11.2).length∧(List.take d11.1.toNat d11.2++List.replicate ((d11.2.length:Int).toNat - d11.1.toNat) 0++List.drop (d11.2.length:Int).toNat d11.2).length<4611686018427387904) then bif decide (d11.1.toNat≤(srtI (List.take d11.1.toNat (List.take d11.1.toNat d11.2++List.replicate ((d11.2.length:Int).toNat - d11.1.toNat) 0++List.drop (d11.2.length:Int).toNat d11.2))++List.drop d11.1.toNat (List.take d11.1.toNat d11.2++List.replicate ((d11.2.length:Int).toNat - d11.1.toNat) 0++List.drop (d11.2.length:Int).toNat d11.2)).length∧(srtI (List.take d11.1.toNat (List.take d11.1.toNat d11.2++List.replicate ((d11.2.length:Int).toNat - d11.1.toNat) 0++List.drop (d11.2.length:Int).toNat d11.2))++List.drop d11.1.toNat (List.take d11.1.toNat d11.2++List.replicate ((d11.2.length:Int).toNat - d11.1.toNat) 0++List.drop (d11.2.length:Int).toNat d11.2)).length<4611686018427387904) then some (List.drop 0 (List.take (Lib.compact (List.take d11.1.toNat (srtI (List.take d11.1.toNat (List.take d11.1.toNat d11.2++List.replicate ((d11.2.length:Int).toNat - d11.1.toNat) 0++List.drop (d11.2.length:Int).toNat d11.2))++List.drop d11.1.toNat
 (List.take d11.1.toNat d11.2++List.replicate ((d11.2.length:Int).toNat - d11.1.toNat) 0++List.drop (d11.2.length:Int).toNat d11.2)))).length (cutI (srtI (List.take d11.1.toNat (List.take d11.1.toNat d11.2++List.replicate ((d11.2.length:Int).toNat - d11.1.toNat) 0++List.drop (d11.2.length:Int).toNat d11.2))++List.drop d11.1.toNat (List.take d11.1.toNat d11.2++List.replicate ((d11.2.length:Int).toNat - d11.1.toNat) 0++List.drop (d11.2.length:Int).toNat d11.2)) d11.1.toNat))) else none else none else none else none else none) d9 else none
def Zow (x:U×Unit):Option (List Int):=ZoH x.1
def ZAe:=conP true ZLe (.dat (.sl (.int .i64))) Zow
theorem ZLP:Zg Tryz.prog 43 ZAe:=Ze (calU YT [QV,Yj,ZbO,Zjy,ZEM] 40 1048576 8 43) true (by rfl) (by rfl) (fun x r e=>(Zk _ _ _ _ _ _ _).trans ((show _=Zow x by kernel_rfl).trans e)) (.inl rfl)
def Zdt (b0 b0_1:List Int) (b0_2:Int) (b0_3:List C) (s15:List Int) (i:Nat) (b1:List Int) (d:Int):Option ((List Int)⊕Jy):=
 bif decide ((b1.length+[d,IntKind.i64.wrap (d - 1)].length+1)*8≤lim) then
  some (.inl (b1++[d,IntKind.i64.wrap (d - 1)]))
 else none
def Znl (b0 b0_1:List Int) (b0_2:Int) (b0_3:List C) (s15 b1:List Int):Option Jy:=
 some (b0,b0_1,b0_2,b0_3,b1)
abbrev ZBK (b0 b0_1:List Int) (b0_2:Int) (b0_3:List C) (s15:List Int) (i:Nat) (s:List Int):Hn:=(s15,(s15.length:Int),(i:Int),b0,b0_1,b0_2,b0_3,s)
def ZiC (b0 b0_1:List Int) (b0_2:Int) (b0_3:List C) (s15 s:List Int):Option Jy:=Zq (fun i s d=>Zdt b0 b0_1 b0_2 b0_3 s15 i s d) (fun s=>Znl b0 b0_1 b0_2 b0_3 s15 s) 0 s15 s
theorem ZBA (b0 b0_1:List Int) (b0_2:Int) (b0_3:List C) (s15 s:List Int) (hl:s15.length<9223372036854775807):ZaS (s15,(s15.length:Int),0,b0,b0_1,b0_2,b0_3,s)=ZiC b0 b0_1 b0_2 b0_3 s15 s:=by
 unfold ZaS ZiC
 refine Zs s15 (ZBK b0 b0_1 b0_2 b0_3 s15) _ _ ?_ ?_ s (by unfold Zr;omega)
 ·intro i s d hi hd
  have e1:decide ((i:Int)<(s15.length:Int))=true:=dT0 (by omega)
  have e2:decide (0≤(i:Int))=true:=dT0 (by omega)
  have e3:Int.toNat (i:Int)=i:=tN0 i
  have e4:=Zu hi (Nat.le_of_lt hl)
  show W3 (s15) ((s15.length:Int)) ((i:Int)) (b0) (b0_1) (b0_2) (b0_3) (s)=upd _ (Zdt b0 b0_1 b0_2 b0_3 s15 i s d)
  unfold W3 Zdt
  simp only [e1,e2,e3,e4,hd,cond_true,cond_false,Zc,ZD,ZG,ZE,ZK,ZL,ZF]
 ·intro s
  have e1:decide ((s15.length:Int)<(s15.length:Int))=false:=dF0 (by omega)
  show W3 (s15) ((s15.length:Int)) ((s15.length:Int)) (b0) (b0_1) (b0_2) (b0_3) (s)=_
  unfold W3 Znl
  rw [e1]
  rfl
theorem ZNo {α:Type} (g:α→List Int):∀ (r:List α) (l:List Int),r.foldl (fun s d=>s++g d) l=l++r.flatMap g
 | [],l=>by simp
 | a::r,l=>by rw [List.foldl_cons,ZNo g r,List.flatMap_cons,List.append_assoc]
theorem ZZJ (u:U) (l:List Int) (hu:∀ n∈u.2.1,1≤n∧n≤16) (h:l.length+2*u.2.1.length≤10000) :
  ZaS (u.2.1,(u.2.1.length:Int),0,u.1,u.2.1,u.2.2.1,u.2.2.2,l)=some (u.1,u.2.1,u.2.2.1,u.2.2.2,l++u.2.1.flatMap numD):=by
 rw [ZBA u.1 u.2.1 u.2.2.1 u.2.2.2 u.2.1 l (by omega)]
 unfold ZiC
 rw [ZeR (g:=fun s d=>s++numD d) (fun s r=>s.length+2*r.length≤10000∧∀ n∈r,1≤n∧n≤16) (fun j s d r h=>?_) u.2.1 0 l ⟨h,hu⟩,ZNo]
 ·rfl
 ·have h':=h.1
  rw [List.length_cons] at h'
  have hd:=h.2 d (by simp)
  have w:IntKind.i64.wrap (d - 1)=d - 1:=Zev (by omega) (by omega)
  have q:decide ((s.length+2+1)*8≤lim)=true:=dT0 (by unfold lim;omega)
  refine ⟨?_,by simp only [numD,List.length_append,List.length_cons,List.length_nil];omega,fun n hn=>h.2 n (by simp [hn])⟩
  simp only [Zdt,w,List.length_cons,List.length_nil,Nat.zero_add,q,cond_true,numD]
def numB (a:A):List Int:=bif a.1==1 then [a.2.2.2.2.2.1 - 1,a.2.2.2.2.2.1,a.2.2.2.2.2.1+1] else []
theorem ZGS (a:A):(numB a).length≤3:=by unfold numB;cases a.1==1<;>simp
theorem Zk1 {α:Type} {g:α→List Int} {k:Nat} (h:∀ a,(g a).length≤k):∀ r:List α,(r.flatMap g).length≤k*r.length
 | []=>by simp
 | a::r=>by
  have:=h a
  have:=Zk1 h r
  rw [List.flatMap_cons,List.length_append,List.length_cons,Nat.mul_succ];omega
theorem ZW3 (s29:List C) (s30 s31:Int) (acts:List A) (hf:∀ a∈acts,fitB a.2.2.2.2.2.1=true) (ha:acts.length≤60) (l:List Int) (hl:l.length≤7000) :
  Hl (s29,s30,s31,acts,(acts.length:Int),0,l)=some (s29,s30,s31,l++acts.flatMap numB):=by
 have go:∀ (r:List A) (i:Nat) (s:List Int) (k:Nat),acts.drop i=r→i+r.length=acts.length→s.length+3*r.length≤8000→
   Zn Zaf (k+r.length+1) (s29,s30,s31,acts,(acts.length:Int),(i:Int),s)=some (s29,s30,s31,s++r.flatMap numB):=by
  intro r
  induction r with
  | nil=>
   intro i s k hd hi hs
   have e:decide ((i:Int)<(acts.length:Int))=false:=dF0 (by simp at hi;omega)
   simp only [Zn,Zaf,J8,e,cond_false]
   simp
  | cons a r ih=>
   intro i s k hd hi hs
   rw [List.length_cons] at hi hs ⊢
   have hc:acts[i]? = some a:=by
    have:=congrArg (fun q=>q[0]?) hd
    simpa using this
   have e:decide ((i:Int)<(acts.length:Int))=true:=dT0 (by omega)
   have e0:decide (0≤(i:Int))=true:=dT0 (by omega)
   have w:=Zu (i:=i) (n:=acts.length) (by omega) (by omega)
   have hfa:=Jw.1 (hf a (mG0 hc))
   have w1:IntKind.i64.wrap (a.2.2.2.2.2.1 - 1)=a.2.2.2.2.2.1 - 1:=Zev (by omega) (by omega)
   have w2:IntKind.i64.wrap (a.2.2.2.2.2.1+1)=a.2.2.2.2.2.1+1:=Zev (by omega) (by omega)
   have lm:decide ((s.length+3+1)*8≤lim)=true:=dT0 (by unfold lim;omega)
   have nb:=ZGS a
   have ih':=ih (i+1) (s++numB a) k (by rw [← List.drop_drop,hd];rfl) (by omega) (by rw [List.length_append];omega)
   rw [show k+(r.length+1)+1=(k+r.length+1)+1 by omega,Zn,List.flatMap_cons,← List.append_assoc]
   rw [← ih']
   simp only [Zaf,J8,e,e0,cond_true,tN0,hc,Zc,w,w1,w2,List.length_cons,List.length_nil,Nat.zero_add,lm]
   unfold numB
   cases a.1==1
   ·simp only [cond_false,List.append_nil]
   ·simp only [cond_true]
 unfold Hl
 have:=go acts 0 l (Zr - acts.length - 1) rfl (by simp) (by omega)
 rw [show Zr - acts.length - 1+acts.length+1=Zr by unfold Zr;omega] at this
 exact this
def numBs (c:C):List Int:=c.2.flatMap numB
theorem ZZL (u:U) (hu:unitOK u) (l:List Int) (hl:l.length≤1000):Zez (u.2.2.2,(u.2.2.2.length:Int),0,l)=some (l++u.2.2.2.flatMap numBs):=by
 have ht:=hu.t
 have go:∀ (r:List C) (i:Nat) (s:List Int) (k:Nat),u.2.2.2.drop i=r→i+r.length=u.2.2.2.length→s.length+180*r.length≤6000→
   Zn Zae (k+r.length+1) (u.2.2.2,(u.2.2.2.length:Int),(i:Int),s)=some (s++r.flatMap numBs):=by
  intro r
  induction r with
  | nil=>
   intro i s k hd hi hs
   have e:decide ((i:Int)<(u.2.2.2.length:Int))=false:=dF0 (by simp at hi;omega)
   simp only [Zn,Zae,ZiM,e,cond_false]
   simp
  | cons c r ih=>
   intro i s k hd hi hs
   rw [List.length_cons] at hi hs ⊢
   have hc:u.2.2.2[i]? = some c:=by
    have:=congrArg (fun q=>q[0]?) hd
    simpa using this
   have ho:=hu.ts c (mG0 hc)
   have e:decide ((i:Int)<(u.2.2.2.length:Int))=true:=dT0 (by omega)
   have e0:decide (0≤(i:Int))=true:=dT0 (by omega)
   have w:=Zu (i:=i) (n:=u.2.2.2.length) (by omega) (by omega)
   have hn:=ho.n.2
   have a1:=ZW3 u.2.2.2 (u.2.2.2.length:Int) (i:Int) c.2 (fun a ha=>(ho.a a ha).n) hn s (by omega)
   have a2:=Zk1 ZGS c.2
   have ih':=ih (i+1) (s++numBs c) k (by rw [← List.drop_drop,hd];rfl) (by omega) (by rw [List.length_append];unfold numBs;omega)
   rw [show k+(r.length+1)+1=(k+r.length+1)+1 by omega,Zn,List.flatMap_cons,← List.append_assoc,← ih']
   simp only [Zae,ZiM,e,e0,cond_true,tN0,hc,Zc,a1,w]
   rfl
 unfold Zez
 have:=go u.2.2.2 0 l (Zr - u.2.2.2.length - 1) rfl (by simp) (by omega)
 rw [show Zr - u.2.2.2.length - 1+u.2.2.2.length+1=Zr by unfold Zr;omega] at this
 exact this
theorem ZXa {d:Int}:(bif decide (d < -2147483648) then false else bif decide (d>2147483647) then false else true)=fitB d:=by
 cases h:fitB d
 ·have:¬ (-2147483648≤d∧d≤2147483647):=fun k=>by rw [Jw.2 k] at h;cases h
  by_cases h1:d < -2147483648
  ·rw [dT0 h1];rfl
  ·rw [dF0 h1,dT0 (show d>2147483647 by omega)];rfl
 ·have:=Jw.1 h
  rw [dF0 (show ¬ d < -2147483648 by omega),dF0 (show ¬ d>2147483647 by omega)];rfl
theorem ZQp {α:Type} {d:Int} {x y:α}:(bif decide (d < -2147483648) then x else bif decide (d>2147483647) then x else y)=bif fitB d then y else x:=by
 rw [← ZXa]
 cases decide (d < -2147483648)<;>cases decide (d>2147483647)<;>rfl
theorem ZW4 (L:List Int) (hL:L.length≤10000):(QS ((L.length:Int),0,L)=some (.inl L)∧L.filter fitB=L)∨∃ j:Nat,j<L.length∧QS ((L.length:Int),0,L)=some (.inr ((j:Int),L))∧L.filter fitB=L.take j++(L.drop (j+1)).filter fitB:=by
 have go:∀ (r:List Int) (i:Nat) (k:Nat),L.drop i=r→i+r.length=L.length→(L.take i).filter fitB=L.take i→
   (Zn QC (k+r.length+1) ((L.length:Int),(i:Int),L)=some (.inl L)∧L.filter fitB=L) ∨
   ∃ j:Nat,j<L.length∧Zn QC (k+r.length+1) ((L.length:Int),(i:Int),L)=some (.inr ((j:Int),L))∧L.filter fitB=L.take j++(L.drop (j+1)).filter fitB:=by
  intro r
  induction r with
  | nil=>
   intro i k hd hi hf
   have hi:i=L.length:=by simpa using hi
   have e:decide ((i:Int)<(L.length:Int))=false:=dF0 (by omega)
   refine .inl ⟨?_,?_⟩
   ·simp only [Zn,QC,JP,e,cond_false]
   ·subst hi
    rwa [List.take_length] at hf
  | cons d r ih=>
   intro i k hd hi hf
   rw [List.length_cons] at hi ⊢
   have hc:L[i]? = some d:=by
    have:=congrArg (fun q=>q[0]?) hd
    simpa using this
   have e:decide ((i:Int)<(L.length:Int))=true:=dT0 (by omega)
   have e0:decide (0≤(i:Int))=true:=dT0 (by omega)
   have w:=Zu (i:=i) (n:=L.length) (by omega) (by omega)
   have hs:Zn QC (k+(r.length+1)+1) ((L.length:Int),(i:Int),L) =
     bif fitB d then Zn QC (k+r.length+1) ((L.length:Int),((i+1:Nat):Int),L) else some (.inr ((i:Int),L)):=by
    rw [show k+(r.length+1)+1=(k+r.length+1)+1 by omega,Zn]
    simp only [QC,JP,e,e0,cond_true,tN0,hc,Zc,w]
    rw [ZQp]
    cases fitB d<;>rfl
   rw [hs]
   cases hq:fitB d
   ·refine .inr ⟨i,by omega,rfl,?_⟩
    have hL2:L=L.take i++d::L.drop (i+1):=by
     have:L.drop i=d::L.drop (i+1):=by
      have h1:=(List.getElem?_eq_some_iff.1 hc)
      obtain ⟨h1,h2⟩:=h1
      rw [List.drop_eq_getElem_cons h1,h2]
     rw [← this,List.take_append_drop]
    conv=>lhs;rw [hL2]
    rw [List.filter_append,hf,List.filter_cons,hq]
    rfl
   ·refine ih (i+1) k (by rw [← List.drop_drop,hd];rfl) (by omega) ?_
    rw [List.take_add_one,hc,List.filter_append,hf]
    simp [hq]
 unfold QS
 have:=go L 0 (Zr - L.length - 1) rfl (by simp) rfl
 rw [show Zr - L.length - 1+L.length+1=Zr by unfold Zr;omega] at this
 exact this
theorem ZZK (L:List Int) (hL:L.length≤10000) (j0:Nat) (hj:j0<L.length) (hf:L.filter fitB=L.take j0++(L.drop (j0+1)).filter fitB) :
  ∃ (j:Nat) (X:List Int),ZeA ((j0:Int),((j0+1:Nat):Int),L)=some ((j:Int),X)∧j≤X.length∧X.length=L.length∧X.take j=L.filter fitB:=by
 have go:∀ (r:List Int) (i j:Nat) (X:List Int) (k:Nat),j≤i→X.drop i=r→X.length=L.length→i+r.length=L.length→X.take j++r.filter fitB=L.filter fitB→
   ∃ (j':Nat) (X':List Int),Zn QU (k+r.length+1) ((j:Int),(i:Int),X)=some ((j':Int),X')∧j'≤X'.length∧X'.length=L.length∧X'.take j'=L.filter fitB:=by
  intro r
  induction r with
  | nil=>
   intro i j X k hji hd hX hi hq
   have hi:i=L.length:=by simpa using hi
   have e:decide ((i:Int)<(X.length:Int))=false:=dF0 (by omega)
   refine ⟨j,X,?_,by omega,hX,by simpa using hq⟩
   simp only [Zn,QU,ZiN,e,cond_false]
  | cons d r ih=>
   intro i j X k hji hd hX hi hq
   rw [List.length_cons] at hi ⊢
   have hc:X[i]? = some d:=by
    have:=congrArg (fun q=>q[0]?) hd
    simpa using this
   have e:decide ((i:Int)<(X.length:Int))=true:=dT0 (by omega)
   have e0:decide (0≤(i:Int))=true:=dT0 (by omega)
   have e1:decide (0≤(j:Int))=true:=dT0 (by omega)
   have w:=Zu (i:=i) (n:=X.length) (by omega) (by omega)
   have wj:=Zu (i:=j) (n:=X.length) (by omega) (by omega)
   have hd1:X.drop (i+1)=r:=by rw [← List.drop_drop,hd];rfl
   have gj:X[j]? = some (X[j]'(by omega)):=List.getElem?_eq_getElem _
   have hs:Zn QU (k+(r.length+1)+1) ((j:Int),(i:Int),X) =
     bif fitB d then Zn QU (k+r.length+1) (((j+1:Nat):Int),((i+1:Nat):Int),X.set j d)
     else Zn QU (k+r.length+1) ((j:Int),((i+1:Nat):Int),X):=by
    rw [show k+(r.length+1)+1=(k+r.length+1)+1 by omega,Zn]
    simp only [QU,ZiN,e,e0,e1,cond_true,tN0,hc,gj,Zc,w,wj]
    rw [ZQp]
    cases fitB d<;>rfl
   rw [hs]
   rw [List.filter_cons] at hq
   cases hw:fitB d
   ·rw [hw] at hq
    exact ih (i+1) j X k (by omega) hd1 hX (by omega) hq
   ·rw [hw] at hq
    refine ih (i+1) (j+1) (X.set j d) k (by omega) ?_ (by rw [List.length_set];exact hX) (by omega) ?_
    ·rw [List.drop_set_of_lt (by omega)];exact hd1
    ·rw [← hq,List.take_add_one,List.getElem?_set_self (by omega),List.take_set_of_le (Nat.le_refl _)]
     simp
 unfold ZeA
 have h1:(L.drop (j0+1)).length=L.length - (j0+1):=List.length_drop ..
 have:=go (L.drop (j0+1)) (j0+1) j0 L (Zr - (L.length - (j0+1)) - 1) (by omega) rfl rfl (by omega) hf.symm
 rw [h1,show Zr - (L.length - (j0+1)) - 1+(L.length - (j0+1))+1=Zr by unfold Zr;omega] at this
 exact this
def rawN (u:U):List Int:=[-1,0,1]++u.1++u.2.1.flatMap numD++u.2.2.2.flatMap numBs
theorem ZGp (M:List Int) (m:Nat):List.drop 0 (List.take (Lib.compact (List.take m M)).length (cutI M m))=Lib.compact (List.take m M):=by
 unfold cutI
 rw [List.drop_zero,List.append_assoc,List.take_left]
theorem ZRx (u:U):Lib.compact (srtI ((rawN u).filter fitB))=Zv u:=by
 obtain ⟨h1,h2⟩:=ZT8 ((rawN u).filter fitB)
 refine ZKX _ _ h1 (ZR6 u) fun x=>?_
 rw [h2,ZD3,List.mem_filter]
 have k:x∈rawN u↔x∈([-1,0,1]:List Int)∨x∈allN u:=by
  unfold rawN allN
  have hB:∀ a:A,x∈numB a↔x∈numA a:=fun a=>by
   unfold numB numA
   cases a.1==1
   ·rfl
   ·simp only [cond_true,List.mem_cons]
    exact ⟨fun h=>by rcases h with h | h | h | h<;>simp_all,fun h=>by rcases h with h | h | h | h<;>simp_all⟩
  have hC:∀ c:C,x∈numBs c↔x∈numC c:=fun c=>by
   unfold numBs numC
   simp only [List.mem_flatMap,hB]
  simp only [List.mem_append,List.mem_flatMap,hC,or_assoc]
 rw [k]
 constructor
 ·rintro ⟨h | h,hf⟩
  ·exact .inr h
  ·exact .inl ⟨h,hf⟩
 ·rintro (⟨h,hf⟩ | h)
  ·exact ⟨.inr h,hf⟩
  ·refine ⟨.inl h,?_⟩
   simp only [List.mem_cons,List.not_mem_nil,or_false] at h
   rcases h with rfl | rfl | rfl<;>rfl
theorem ZV7 (u:U) (hu:unitOK u):(rawN u).length≤3000:=by
 have h1:=hu.g
 have h2:=hu.a
 have h3:=hu.t
 have a:=Zk1 (g:=numD) (k:=2) (fun d=>Nat.le_refl _) u.2.1
 have b:∀ (r:List C),(∀ c∈r,c.2.length≤60)→(r.flatMap numBs).length≤180*r.length:=by
  intro r
  induction r with
  | nil=>simp
  | cons c r ih=>
   intro h
   have h0:=h c (by simp)
   have:=ih fun c hc=>h c (by simp [hc])
   have:=Zk1 ZGS c.2
   rw [List.flatMap_cons,List.length_append,List.length_cons]
   unfold numBs at *
   omega
 have b:=b u.2.2.2 fun c hc=>(hu.ts c hc).n.2
 unfold rawN
 simp only [List.length_append,List.length_cons,List.length_nil]
 omega
theorem ZQ5 (l:List Int):(srtI l).length=l.length:=by unfold srtI;exact List.length_mergeSort _
theorem ZPp (u:U) (hu:unitOK u):ZoH u=some (Zv u):=by
 have g1:=hu.g
 have g2:=hu.a
 have rl:=ZV7 u hu
 unfold ZoH
 rw [dT0 (show ([-1,0,1].length+List.length u.1+1)*8≤lim by simp only [List.length_cons,List.length_nil];unfold lim;omega),cond_true]
 rw [ZZJ u _ (fun n hn=>hu.ars n hn) (by simp only [List.length_append,List.length_cons,List.length_nil];omega)]
 simp only [Zc]
 have rl':=rl
 unfold rawN at rl'
 rw [List.length_append] at rl'
 have a2:=Zk1 (g:=numD) (k:=2) (fun d=>Nat.le_refl _) u.2.1
 rw [ZZL u hu _ (by simp only [List.length_append,List.length_cons,List.length_nil];omega)]
 simp only [Zc]
 rw [← ZRx]
 show Za (QS (((rawN u).length:Int),0,rawN u)) none _=_
 generalize rawN u=L at *
 rcases ZW4 L (by omega) with ⟨h1,h2⟩ | ⟨j0,hj,h1,h2⟩
 ·rw [h1,h2]
  have s1:=ZQ5 L
  simp only [Zc,Sum.elim_inl]
  rw [dT0 (show L.length<4611686018427387904 by omega),dT0 (show (srtI L).length<4611686018427387904 by omega),cond_true,cond_true,ZGp,List.take_length]
 ·rw [h1]
  obtain ⟨j,X,d1,d2,d3,d4⟩:=ZZK L (by omega) j0 hj h2
  rw [← d4]
  have n1:((j0:Int) == -1)=false:=by simp
  have w:IntKind.i64.wrap ((j0:Int)+1)=((j0+1:Nat):Int):=Zu (n:=L.length) hj (by omega)
  have ts:(srtI (List.take j X)).length=j:=by rw [ZQ5,List.length_take];omega
  simp only [Zc,Sum.elim_inr,n1,cond_false,w,d1,tN0]
  have c1:decide (0≤(j:Int)∧(j:Int)≤(X.length:Int)∧(X.length:Int)≤(X.length:Int))=true:=dT0 (by omega)
  rw [c1,cond_true]
  by_cases q:X.length≤j
  ·have c2:decide ((0:Int)≤0∧0≤(j:Int)∧(j:Int)≤(X.length:Int))=true:=dT0 (by omega)
   have c3:decide (j≤X.length∧X.length<4611686018427387904)=true:=dT0 (by omega)
   have c4:decide (j≤(srtI (List.take j X)++List.drop j X).length∧(srtI (List.take j X)++List.drop j X).length<4611686018427387904)=true:=dT0 (by rw [List.length_append,ts,List.length_drop];omega)
   rw [dT0 q,c2,c3,c4]
   simp only [cond_true]
   rw [ZGp,List.take_append_of_le_length (by omega),List.take_of_length_le (by omega)]
  ·rw [dF0 q]
   simp only [cond_false]
   have lt:(List.take j X).length=j:=by rw [List.length_take];omega
   have y1:(List.take j X++List.replicate (X.length - j) 0++List.drop X.length X).length=X.length:=by simp only [List.length_append,lt,List.length_replicate,List.length_drop];omega
   have y2:List.take j (List.take j X++List.replicate (X.length - j) 0++List.drop X.length X)=List.take j X:=by rw [List.append_assoc,List.take_append_of_le_length (by omega),List.take_take,Nat.min_self]
   have key:∀ Y:List Int,Y.length=X.length→List.take j Y=List.take j X→
     (bif decide (X.length≤X.length) then bif decide ((0:Int)≤0∧0≤(j:Int)∧(j:Int)≤(Y.length:Int)) then bif decide (j≤Y.length∧Y.length<4611686018427387904) then
      bif decide (j≤(srtI (List.take j Y)++List.drop j Y).length∧(srtI (List.take j Y)++List.drop j Y).length<4611686018427387904) then
       some (List.drop 0 (List.take (Lib.compact (List.take j (srtI (List.take j Y)++List.drop j Y))).length (cutI (srtI (List.take j Y)++List.drop j Y) j))) else none else none else none else none)=some (Lib.compact (srtI (List.take j X))):=fun Y y1 y2=>by
    have tY:(srtI (List.take j Y)).length=j:=by rw [y2];exact ts
    have c2:decide ((0:Int)≤0∧0≤(j:Int)∧(j:Int)≤(Y.length:Int))=true:=dT0 (by omega)
    have c3:decide (j≤Y.length∧Y.length<4611686018427387904)=true:=dT0 (by omega)
    have c4:decide (j≤(srtI (List.take j Y)++List.drop j Y).length∧(srtI (List.take j Y)++List.drop j Y).length<4611686018427387904)=true:=dT0 (by rw [List.length_append,tY,List.length_drop];omega)
    rw [dT0 (Nat.le_refl X.length),c2,c3,c4]
    simp only [cond_true]
    rw [ZGp,List.take_append_of_le_length (by omega),List.take_of_length_le (by omega),y2]
   exact key _ y1 y2
section
section
variable [RT] {P:Program}
def mvB (base id j:Nat) (h:Hp):Hp:=match Zm h.blks id with
 | some (.box cs)=>match cs[j]? with
  | some (.row k)=>bif leB base k then h else match Zm h.blks k with
   | some (.row e l)=>⟨setB ((h.c,.row e l)::delB h.blks k) id (.box (cs.set j (.row h.c))),h.c+1⟩
   | _=>h
  | _=>h
 | _=>h
def mvBs (base:Nat) (T:Tm):List (Nat×Nat)→Hp→Hp
 | [],h=>h
 | (t,j)::r,h=>match getT T t with
  | .ptr id _=>mvBs base T r (mvB base id j h)
  | _=>h
def owS (T:Tm):List (Nat×Nat×Ty)→Hp→Hp
 | [],h=>h
 | (t,j,e)::r,h=>match getT T t with
  | .ptr id _=>owS T r (ownB h id j e)
  | _=>h
def frS (T:Tm):List (Nat×Nat)→Hp→Hp
 | [],h=>h
 | (t,j)::r,h=>match getT T t with
  | .ptr id _=>frS T r (rowB1 id j h)
  | _=>h
section
variable {ok:Nat→Prop} {hdr0 hdr:Nat→Value} {S0 S:Stb} {h0 h:Hp} {w0 w:World} {a0 a:Act} {T:Tm}
theorem Left.under (l:Left P false ok hdr0 S0 h0 w0 a0 h T hdr S a w) (hO:∀ id,ok id→id<h0.c) {k:Nat} {e:Ty} {x:List (D e)} (hf:Zm h.blks k=some (.row e x)) :
  Left P false ok hdr0 S0 h0 w0 a0 ⟨(h.c,.row e x)::delB h.blks k,h.c+1⟩ T (hdrN hdr h.c (hdr k)) S a w:=by
 have hlt:∀ id,okn ok h0.c h.c id→id<h.c:=fun id k=>by
  rcases k with k | k
  ·exact Nat.lt_of_lt_of_le (hO id k) l.post.mono
  ·exact k.2
 have p:Post false (okn ok h0.c h.c) hdr S h w (hdrN hdr h.c (hdr k)) S ⟨(h.c,.row e x)::delB h.blks k,h.c+1⟩ w:=by
  have br:=l.post.real.blk k _ hf
  cases br with
  | rowNil _ ao hh=>
   have p1:=ZjG (tr:=false) l.post.real l.post.ment k _ hf S (fun _ _ k=>k) (fun _ _ k=>.inl k)
   have p2:=post_new' (tr:=false) (h:=⟨delB h.blks k,h.c⟩) p1.real p1.ment (fun id k=>.inl (by rcases k with k | k;exact hlt id k;omega)) (.row e []) (fun n hn=>by cases hn) w rfl rfl rfl (Nat.le_refl _) (fun _ _=>rfl) (hdr k)
    (by rw [hh];cases ao<;>exact .inl rfl) (fun hdr' _ g2=>.rowNil e ao (g2.trans hh))
   exact p1.trans p2
  | row _ _ b cap vs et hh hcap hw hl hs hre=>
   have hblk:blkOf (hdr k)=some b:=by
    rw [hh]
    cases cap with
    | zero=>omega
    | succ n=>rfl
   exact Zvr (tr:=false) l.post.real l.post.ment (fun id k=>.inl (hlt id k)) k (.row e x) _ hf (fun n hn=>by cases hn) w b (hdr k) hblk hblk rfl rfl rfl rfl (fun _ _=>rfl)
    (fun hdr' _ g2=>.row e x b cap vs et (g2.trans hh) hcap hw hl hs hre)
 refine l.trans ⟨p,fun t=>?_,fun t n hn=>.inl (l.tok t n hn),rfl,rfl⟩
 exact VRep.mono (fun _ _ k=>k) (l.tmps t) fun n hn=>Zlg _ _ _ (by have:=hlt n (l.tok t n hn);omega)
theorem Left.mvB (l:Left P false ok hdr0 S0 h0 w0 a0 h T hdr S a w) (hO:∀ id,ok id→id<h0.c) (base id j:Nat) :
  ∃ hdr',Left P false ok hdr0 S0 h0 w0 a0 (Go.Proofs.YtbdcblpjemmipaaGreat.Ex.mvB base id j h) T hdr' S a w:=by
 unfold Go.Proofs.YtbdcblpjemmipaaGreat.Ex.mvB
 split
 case h_2=>exact ⟨hdr,l⟩
 rename_i cs hf
 split
 case h_2=>exact ⟨hdr,l⟩
 rename_i k hk
 cases leB base k
 case true=>exact ⟨hdr,l⟩
 simp only [cond_false]
 split
 case h_2=>exact ⟨hdr,l⟩
 rename_i e x hx
 have hne:id≠k:=fun q=>by rw [q,hx] at hf;cases hf
 have hb:=l.post.real.blk id _ hf
 cases hb with | box _ b vs et hh hw hr=>
 obtain ⟨u,hu,hv⟩:=hr.get j _ hk
 cases hv with | row _ ao len cap hh2=>
 have l1:=l.under hO hx
 have hlt:∀ id,okn ok h0.c h.c id→id<h.c:=fun id k=>by
  rcases k with k | k
  ·exact Nat.lt_of_lt_of_le (hO id k) l.post.mono
  ·exact k.2
 have hid:=hlt id (l.post.ment id _ hf).1
 have hf1:Zm ((h.c,Blk.row e x)::delB h.blks k) id=some (.box cs):=by rw [Qo,if_neg (by omega),ZaH,if_neg hne];exact hf
 have hb1:=l1.post.real.blk id _ hf1
 cases hb1 with | box _ b1 vs1 et1 hh1 hw1 hr1=>
 have e0:hdrN hdr h.c (hdr k) id=hdr id:=Zlg _ _ _ (by omega)
 rw [e0,hh] at hh1
 cases hh1
 rw [hw] at hw1
 simp only [Option.some.injEq,Obj.cells.injEq] at hw1
 have hvs:vs=vs1:=by have:=congrArg Array.toList hw1.1;simpa using this
 subst hvs
 have hB:∀ n∈(Blk.box (cs.set j (.row h.c))).ids,okn ok h0.c (h.c+1) n:=fun n hn=>by
  rcases ZyK j _ n hn with k | k
  ·exact (l1.post.ment id _ hf1).2 n k
  ·simp only [AV.ids,List.mem_singleton] at k
   subst k
   exact .inr ⟨l.post.mono,Nat.lt_succ_self _⟩
 have p:=Zk7 (tr:=false) l1.post.real l1.post.ment id (.box (cs.set j (.row h.c))) _ hf1 hB w b (by rw [e0,hh];rfl) rfl rfl rfl rfl (fun _ _=>rfl)
  (.box _ b vs et (by rw [e0,hh]) hw (Zup j (.row h.c) _ hr1 hu (.row _ ao len cap (by rw [J0];exact hh2))))
 exact ⟨_,l1.trans ⟨p,l1.tmps,fun t n hn=>.inl (l1.tok t n hn),rfl,rfl⟩⟩
theorem Left.mvBs (base:Nat) (hO:∀ id,ok id→id<h0.c):∀ (bs:List (Nat×Nat)) {h:Hp} {hdr:Nat→Value} (_:Left P false ok hdr0 S0 h0 w0 a0 h T hdr S a w),∃ hdr',Left P false ok hdr0 S0 h0 w0 a0 (Go.Proofs.YtbdcblpjemmipaaGreat.Ex.mvBs base T bs h) T hdr' S a w
 | [],_,hdr,l=>⟨hdr,l⟩
 | (t,j)::r,_,hdr,l=>by
  unfold Go.Proofs.YtbdcblpjemmipaaGreat.Ex.mvBs
  split
  ·obtain ⟨hdr',l'⟩:=l.mvB hO base _ j
   exact Left.mvBs base hO r l'
  ·exact ⟨hdr,l⟩
theorem Left.owS (hO:∀ id,ok id→id<h0.c):∀ (bs:List (Nat×Nat×Ty)) {h:Hp} {hdr:Nat→Value} (_:Left P false ok hdr0 S0 h0 w0 a0 h T hdr S a w),∃ hdr',Left P false ok hdr0 S0 h0 w0 a0 (Go.Proofs.YtbdcblpjemmipaaGreat.Ex.owS T bs h) T hdr' S a w
 | [],_,hdr,l=>⟨hdr,l⟩
 | (t,j,e)::r,_,hdr,l=>by
  unfold Go.Proofs.YtbdcblpjemmipaaGreat.Ex.owS
  split
  ·rename_i id _ _
   obtain ⟨hdr',l'⟩:=l.ownB hO id j e
   exact Left.owS hO r l'
  ·exact ⟨hdr,l⟩
theorem Left.frS:∀ (bs:List (Nat×Nat)) {h:Hp} {S:Stb} (_:Left P false ok hdr0 S0 h0 w0 a0 h T hdr S a w),∃ S',Left P false ok hdr0 S0 h0 w0 a0 (Go.Proofs.YtbdcblpjemmipaaGreat.Ex.frS T bs h) T hdr S' a w
 | [],_,S,l=>⟨S,l⟩
 | (t,j)::r,_,S,l=>by
  unfold Go.Proofs.YtbdcblpjemmipaaGreat.Ex.frS
  split
  ·rename_i id _ _
   obtain ⟨S',l'⟩:=l.rowB1 id j
   exact Left.frS r l'
  ·exact ⟨S,l⟩
def slP (os:List (Nat×Nat×Ty)) (fs ms:List (Nat×Nat)) (keep:List Nat) (r:Nat→Tm→Prog (Nat×Tm)) (base:Nat) (T:Tm):Prog (Nat×Tm):=
 .norm base keep T fun T1=>.glob (fun h=>some (T1,mvBs base T1 ms (frS T1 fs (owS T1 os h)))) fun T2=>r base T2
theorem ZOo {n:Nat} {c:Code} {os:List (Nat×Nat×Ty)} {fs ms:List (Nat×Nat)} {keep:List Nat} {r:Nat→Tm→Prog (Nat×Tm)} (hs:Z8 P n c r):Z8 P n c (slP os fs ms keep r):=by
 intro tr ok hdr0 S0 h0 w0 a0 h T hdr S a w f e T' h' f' Q l hn ev hO hK
 obtain ⟨T1,h1,hdr1,rfl,l1,ev⟩:=l.normed ev
 have hO2:∀ id,ok id→id<h0.c:=fun id k=>by
  rcases hO id k with k | k
  ·exact k
  ·cases k.1
 obtain ⟨hdr2,l2⟩:=Left.owS hO2 os l1
 obtain ⟨S3,l3⟩:=Left.frS fs l2
 obtain ⟨hdr4,l4⟩:=Left.mvBs h0.c hO2 ms l3
 unfold ex at ev
 simp only [run,cond_false,Option.bind_some] at ev
 exact hs false ok hdr0 S0 h0 w0 a0 _ _ hdr4 S3 a w f e T' h' f' Q l4 hn ev hO hK
end
end
end
section
section
variable [RT] {P:Program}
def ZbR:List AV→List Nat
 | []=>[]
 | .row i::r=>i::ZbR r
 | _::r=>ZbR r
def getsP:List Nat→(List Blk→Prog AV)→Prog AV
 | [],k=>k []
 | i::r,k=>.get i fun b=>getsP r fun bs=>k (b::bs)
def putsP:List Nat→List Blk→Prog AV→Prog AV
 | i::r,b::bs,k=>.put i b (putsP r bs k)
 | _,_,k=>k
def inOf (ids:List Nat) (n:Nat):Option Nat:=idxN ids n 0
def outOf (ids:List Nat) (n:Nat):Option Nat:=ids[n]?
def meP (N:List AV→List Blk→Option (AV×List Blk)) (args:List AV):Prog AV:=match args with
 | .ptr id _::_=>.get id fun
  | .box cs=>.ite (Qn (id::ZbR cs)) (getsP (id::ZbR cs) fun bs=>
    .opt (N (AV.renL (inOf (id::ZbR cs)) args) (bs.map (Blk.ren (inOf (id::ZbR cs))))) fun y=>putsP (id::ZbR cs) (y.2.map (Blk.ren (outOf (id::ZbR cs)))) (.ret y.1)) .fail
  | .row _ _=>.fail
 | _=>.fail
def getB (h:List (Nat×Blk)):List Nat→Option (List Blk)
 | []=>some []
 | i::r=>(Zm h i).bind fun b=>(getB h r).map (b::·)
def putB:List (Nat×Blk)→List Nat→List Blk→List (Nat×Blk)
 | h,i::r,b::bs=>putB (setB h i b) r bs
 | h,_,_=>h
theorem ZQl {tr:Bool} {h:Hp} {r:AV×Hp×Foot}:∀ (ids:List Nat) (k:List Blk→Prog AV) (f:Foot),ex (getsP ids k) tr h f=some r→∃ bs f',getB h.blks ids=some bs∧ex (k bs) tr h f'=some r
 | [],k,f,e=>⟨[],f,rfl,e⟩
 | i::ids,k,f,e=>by
  obtain ⟨b,hb,e⟩:=Qa e
  obtain ⟨bs,f',h1,e⟩:=ZQl ids _ _ e
  exact ⟨b::bs,f',by simp [getB,hb,h1],e⟩
theorem ZQn {tr:Bool} {v:AV} {r:AV×Hp×Foot}:∀ (ids:List Nat) (bs:List Blk) (h:Hp) (f:Foot),ex (putsP ids bs (.ret v)) tr h f=some r→∃ f',r=(v,⟨putB h.blks ids bs,h.c⟩,f')
 | [],bs,h,f,e=>by
  unfold putsP at e
  cases Zz e
  exact ⟨f,rfl⟩
 | i::ids,[],h,f,e=>by
  unfold putsP at e
  cases Zz e
  exact ⟨f,rfl⟩
 | i::ids,b::bs,h,f,e=>by
  obtain ⟨_,e⟩:=Zma e
  exact ZQn ids bs _ _ e
theorem ZJk {h:List (Nat×Blk)}:∀ {ids:List Nat} {bs:List Blk},getB h ids=some bs→ids.length=bs.length∧∀ (i n:Nat),ids[i]? = some n→Zm h n=bs[i]?
 | [],bs,e=>by cases e;exact ⟨rfl,fun i n k=>by simp at k⟩
 | j::ids,bs,e=>by
  simp only [getB,Option.bind_eq_some_iff,Option.map_eq_some_iff] at e
  obtain ⟨b,hb,bs',hb',rfl⟩:=e
  obtain ⟨h1,h2⟩:=ZJk hb'
  refine ⟨by simp [h1],fun i n k=>?_⟩
  cases i with
  | zero=>simp at k;subst k;simpa using hb
  | succ i=>simp at k;simpa using h2 i n k
theorem ZRv {n:Nat} {l:List Nat} (h:Qn (n::l)=true):n ∉ l∧Qn l=true:=by
 simp only [Qn] at h
 cases hn:hasN l n
 ·rw [hn] at h
  refine ⟨fun k=>?_,by simpa using h⟩
  have:∀ (l:List Nat),n∈l→hasN l n=true:=fun l=>by
   induction l with
   | nil=>intro k;cases k
   | cons a l ih=>
    intro k
    show (bif Nat.beq a n then true else hasN l n)=true
    rcases List.mem_cons.1 k with rfl | k
    ·simp
    ·rw [ih k];cases Nat.beq a n<;>rfl
  rw [this l k] at hn;cases hn
 ·rw [hn] at h;simp at h
theorem ZKu {j:Nat}:∀ {ids:List Nat} {bs:List Blk} {h:List (Nat×Blk)},Qn ids=true→ids.length=bs.length→(∀ n∈ids,∃ b,Zm h n=some b)→
  (∀ i:Nat,ids[i]? = some j→Zm (putB h ids bs) j=bs[i]?)∧(j ∉ ids→Zm (putB h ids bs) j=Zm h j)
 | [],bs,h,_,_,_=>⟨fun i k=>by simp at k,fun _=>by cases bs<;>rfl⟩
 | n::ids,[],h,_,hl,_=>by simp at hl
 | n::ids,b::bs,h,hn,hl,hf=>by
  obtain ⟨h1,h2⟩:=ZRv hn
  obtain ⟨b0,hb0⟩:=hf n (by simp)
  have ih:=ZKu (j:=j) (bs:=bs) (h:=setB h n b) h2 (by simpa using hl) fun m hm=>by
   obtain ⟨b1,hb1⟩:=hf m (by simp [hm])
   rw [Hf _ _ _ _ hb0]
   split
   ·exact ⟨b,rfl⟩
   ·exact ⟨b1,hb1⟩
  refine ⟨fun i k=>?_,fun k=>?_⟩
  ·cases i with
   | zero=>
    simp only [List.getElem?_cons_zero,Option.some.injEq] at k
    subst k
    show Zm (putB (setB h n b) ids bs) n=some b
    rw [ih.2 h1,Hf _ _ _ _ hb0,if_pos rfl]
   | succ i=>exact ih.1 i (by simpa using k)
  ·simp only [List.mem_cons,not_or] at k
   show Zm (putB (setB h n b) ids bs) j=Zm h j
   rw [ih.2 k.2,Hf _ _ _ _ hb0,if_neg k.1]
theorem ZTs {g:FuncId} {q:List AV→Prog AV} (hq:Zg P g q) {N:List AV→List Blk→Option (AV×List Blk)}
  (hN:∀ args bs v bs2,N args bs=some (v,bs2)→(∀ n∈AV.idsL args,n<bs.length)∧(∀ b∈bs,∀ n∈b.ids,n<bs.length)∧v.ids=[]∧bs2.length=bs.length∧(∀ b∈bs2,∀ n∈b.ids,n<bs.length) ∧
   ∃ h2 fb,ex (q args) false ⟨enumB 0 bs,bs.length⟩ ⟨[],[]⟩=some (v,h2,fb)∧∀ i,i<bs.length→Zm h2.blks i=bs2[i]?):Zg P g (meP N):=by
 intro tr args h ft v h' ft' vals hdr S w ok e hr hm hv hi hO
 unfold meP at e
 split at e
 case h_2=>exact (Zh e).elim
 rename_i id off rest
 obtain ⟨b0,hb0,e⟩:=Qa e
 split at e
 case h_2=>exact (Zh e).elim
 rename_i cs
 rcases Jp e with ⟨hnd,e⟩ | ⟨_,e⟩
 case inr=>exact (Zh e).elim
 generalize hids:id::ZbR cs=ids at e hnd
 obtain ⟨bs,f1,hg,e⟩:=ZQl ids _ _ e
 obtain ⟨⟨v1,bs2⟩,hNe,e⟩:=ZB e
 obtain ⟨f2,e⟩:=ZQn ids _ _ _ e
 cases e
 obtain ⟨hlen,hat⟩:=ZJk hg
 obtain ⟨k1,k2,k3,k4,k5,h2,fb,k6,k7⟩:=hN _ _ _ _ hNe
 simp only [List.length_map] at k1 k2 k4 k5 k6 k7
 have hin:∀ n m,inOf ids n=some m→ids[m]? = some n:=fun n m e=>by
  have:=(ZtU e).2
  simpa using this
 have hio:∀ i n,ids[i]? = some n→inOf ids n=some i:=fun i n k=>by
  have:=Zsi 0 hnd k
  rw [Nat.zero_add] at this
  exact this
 let hdr0:Nat→Value:=fun i=>hdr (ids.getD i 0)
 have hd0:∀ i n,ids[i]? = some n→hdr0 i=hdr n:=fun i n k=>by
  show hdr (ids.getD i 0)=_
  rw [List.getD_eq_getElem?_getD,k];rfl
 have hρ:∀ n m,inOf ids n=some m→hdr0 m=hdr n:=fun n m e=>hd0 m n (hin n m e)
 have hσ:∀ n m,outOf ids n=some m→hdr m=hdr0 n:=fun n m e=>(hd0 n m e).symm
 have hmem:∀ i,i<bs.length→∃ n b,ids[i]? = some n∧bs[i]? = some b∧Zm h.blks n=some b:=fun i hi=>by
  have q1:ids[i]? = some (ids[i]'(by omega)):=List.getElem?_eq_getElem _
  refine ⟨_,bs[i],q1,List.getElem?_eq_getElem hi,?_⟩
  rw [hat i _ q1,List.getElem?_eq_getElem hi]
 have e0:∀ i b,Zm (enumB 0 (bs.map (Blk.ren (inOf ids)))) i=some b→∃ n c,i<bs.length∧ids[i]? = some n∧bs[i]? = some c∧Zm h.blks n=some c∧b=c.ren (inOf ids):=fun i b k=>by
  rw [Zjm,if_pos (Nat.zero_le _),Nat.sub_zero,List.getElem?_map,Option.map_eq_some_iff] at k
  obtain ⟨c,hc,rfl⟩:=k
  have hi:=(List.getElem?_eq_some_iff.1 hc).1
  obtain ⟨n,b',q1,q2,q3⟩:=hmem i hi
  rw [hc] at q2;cases q2
  exact ⟨n,c,hi,q1,hc,q3,rfl⟩
 have real0:HReal hdr0 S (enumB 0 (bs.map (Blk.ren (inOf ids)))) w:=by
  refine ⟨fun i b k=>?_,fun i j b b' n hij hi hj hni hnj=>?_,fun i b n hi hni=>?_,hr.mem⟩
  ·obtain ⟨n,c,hl,q1,q2,q3,rfl⟩:=e0 i b k
   exact ZoD hρ (hr.blk n c q3) (hio i n q1)
  ·obtain ⟨x,c,hl,q1,q2,q3,rfl⟩:=e0 i b hi
   obtain ⟨y,d,hl',p1,p2,p3,rfl⟩:=e0 j b' hj
   rw [hd0 i x q1] at hni
   rw [hd0 j y p1] at hnj
   refine hr.sep x y c d n (fun exy=>?_) q3 p3 hni hnj
   subst exy
   have:=(hio i x q1).symm.trans (hio j x p1)
   cases this;exact hij rfl
  ·obtain ⟨x,c,hl,q1,q2,q3,rfl⟩:=e0 i b hi
   rw [hd0 i x q1] at hni
   exact hr.stb x c n q3 hni
 have ment0:Kd (fun n=>n<bs.length) (enumB 0 (bs.map (Blk.ren (inOf ids)))):=fun i b k=>by
  obtain ⟨n,c,hl,q1,q2,q3,rfl⟩:=e0 i b k
  exact ⟨hl,fun m hm=>k2 _ (List.mem_map.2 ⟨c,List.mem_of_getElem? q2,rfl⟩) m hm⟩
 have args0:VReps hdr0 S (AV.renL (inOf ids) (.ptr id off::rest)) vals:=ZjJ hρ _ _ hv
 obtain ⟨hcall,hcalls⟩:=hq false _ ⟨enumB 0 (bs.map (Blk.ren (inOf ids))),bs.length⟩ ⟨[],[]⟩ _ h2 fb vals hdr0 S w (fun n=>n<bs.length) k6 real0 ment0 args0 k1 (fun n k=>.inl k)
 refine ⟨hcall,hcalls.mono ?_⟩
 rintro en w' ⟨u,hdr',S',rfl,p2,hv2,_⟩
 have hag:∀ i,i<bs.length→hdr' i=hdr0 i:=fun i hi=>p2.agree i (.inl hi)
 have hs2:∀ n m,outOf ids n=some m→hdr m=hdr' n:=fun n m e=>by
  have:n<ids.length:=(List.getElem?_eq_some_iff.1 e).1
  rw [hag n (by omega)];exact hσ n m e
 have own0:∀ n,own (enumB 0 (bs.map (Blk.ren (inOf ids)))) hdr0 n→∃ x c,x∈ids∧Zm h.blks x=some c∧blkOf (hdr x)=some n:=fun n ⟨i,b,k,kb⟩=>by
  obtain ⟨x,c,hl,q1,q2,q3,rfl⟩:=e0 i b k
  rw [hd0 i x q1] at kb
  exact ⟨x,c,List.mem_of_getElem? q1,q3,kb⟩
 have hall:∀ n∈ids,∃ b,Zm h.blks n=some b:=fun n hn=>by
  obtain ⟨i,hi,rfl⟩:=List.mem_iff_getElem.1 hn
  obtain ⟨m,b,q1,q2,q3⟩:=hmem i (by omega)
  rw [List.getElem?_eq_getElem hi] at q1;cases q1
  exact ⟨b,q3⟩
 have hl2:ids.length=(bs2.map (Blk.ren (outOf ids))).length:=by simp;omega
 have fput:∀ j c,Zm (putB h.blks ids (bs2.map (Blk.ren (outOf ids)))) j=some c→(∃ i b,ids[i]? = some j∧bs2[i]? = some b∧c=b.ren (outOf ids)∧i<bs.length)∨(j ∉ ids∧Zm h.blks j=some c):=fun j c k=>by
  have hp:=ZKu (j:=j) hnd hl2 hall
  by_cases hj:j∈ids
  ·obtain ⟨i,hi,rfl⟩:=List.mem_iff_getElem.1 hj
   rw [hp.1 i (List.getElem?_eq_getElem hi),List.getElem?_map,Option.map_eq_some_iff] at k
   obtain ⟨b,hb,rfl⟩:=k
   exact .inl ⟨i,b,List.getElem?_eq_getElem hi,hb,rfl,by omega⟩
  ·rw [hp.2 hj] at k
   exact .inr ⟨hj,k⟩
 have ffound:∀ j c,Zm (putB h.blks ids (bs2.map (Blk.ren (outOf ids)))) j=some c→∃ b,Zm h.blks j=some b:=fun j c k=>by
  rcases fput j c k with ⟨i,b,q1,_⟩ | ⟨_,q⟩
  ·exact hall j (List.mem_of_getElem? q1)
  ·exact ⟨c,q⟩
 have hfar:∀ j c,j ∉ ids→Zm h.blks j=some c→∀ n,blkOf (hdr j)=some n→¬ own (enumB 0 (bs.map (Blk.ren (inOf ids)))) hdr0 n:=fun j c hj hf n hn k=>by
  obtain ⟨x,d,hx,q1,q2⟩:=own0 n k
  exact hr.sep j x c d n (fun e=>hj (e ▸ hx)) hf q1 hn q2
 have post:Post tr ok hdr S h w hdr S' ⟨putB h.blks ids (bs2.map (Blk.ren (outOf ids))),h.c⟩ w':=by
  refine ⟨Nat.le_refl _,fun _ _=>rfl,⟨fun j c k=>?_,fun i j b b' n hij hi hj hni hnj=>?_,fun i b n hi hni=>?_,p2.real.mem⟩,⟨p2.step.os,p2.step.tape,p2.step.output,p2.step.size,fun n hn ho=>p2.step.frame n hn fun k=>?_,fun n k=>?_,p2.step.sle,fun n c k=>?_⟩,fun j c k=>?_⟩
  ·rcases fput j c k with ⟨i,b,q1,q2,rfl,hi⟩ | ⟨hj,hf⟩
   ·exact ZoD hs2 (p2.real.blk i b (by rw [k7 i hi];exact q2)) q1
   ·have br:=hr.blk j c hf
    exact br.congr p2.step.sle rfl (fun _ _=>rfl) fun n hn=>p2.step.frame n (br.lt hn) (hfar j c hj hf n hn)
  ·obtain ⟨c,hc⟩:=ffound i b hi
   obtain ⟨d,hd⟩:=ffound j b' hj
   exact hr.sep i j c d n hij hc hd hni hnj
  ·rcases fput i b hi with ⟨x,c,q1,q2,rfl,hx⟩ | ⟨hj,hf⟩
   ·exact p2.real.stb x c n (by rw [k7 x hx];exact q2) (by rw [← hs2 x i q1];exact hni)
   ·cases hs:S' n with
    | none=>rfl
    | some c=>
     exfalso
     rcases p2.step.snew n c hs with k | k | k
     ·rw [hr.stb i b n hf hni] at k;cases k
     ·exact hfar i b hj hf n hni k
     ·have:=(hr.blk i b hf).lt hni
      omega
  ·obtain ⟨x,c,hx,q1,q2⟩:=own0 n k
   exact ho ⟨x,c,q1,q2⟩
  ·obtain ⟨j,c,hf,hb⟩:=k
   obtain ⟨b,hb'⟩:=ffound j c hf
   exact .inl ⟨j,b,hb',hb⟩
  ·rcases p2.step.snew n c k with k | k | k
   ·exact .inl k
   ·obtain ⟨x,d,hx,q1,q2⟩:=own0 n k
    exact .inr (.inl ⟨x,d,q1,q2⟩)
   ·exact .inr (.inr k)
  ·rcases fput j c k with ⟨i,b,q1,q2,rfl,hi⟩ | ⟨hj,hf⟩
   ·obtain ⟨b',hb'⟩:=hall j (List.mem_of_getElem? q1)
    refine ⟨.inl (hm j b' hb').1,fun n hn=>?_⟩
    obtain ⟨m,_,em⟩:=ZxV hn
    obtain ⟨b'',hb''⟩:=hall n (List.mem_of_getElem? em)
    exact .inl (hm n b'' hb'').1
   ·exact ⟨.inl (hm j c hf).1,fun n hn=>.inl ((hm j c hf).2 n hn)⟩
 exact ⟨u,hdr,S',rfl,post,hv2.mono (fun _ _ k=>k) fun n hn=>(by rw [k3] at hn;cases hn),fun n hn=>by rw [k3] at hn;cases hn⟩
end
end
section
section
variable [RT] {P:Program}
def lowSh (k:Nat):Sh→Bool
 | .ptr n _=>leB (n+1) k
 | .row n=>leB (n+1) k
 | s=>free s
def lowB (k:Nat):BSh→Bool
 | .box cs=>cs.all (lowSh k)
 | .row _=>true
theorem ZVJ {k:Nat} {s:Sh} {d:ShD s} (h:lowSh k s=true):∀ n∈(mk s d).ids,n<k:=by
 intro n hn
 cases s with
 | ptr a b=>
  simp only [mk,AV.ids,List.mem_singleton] at hn
  subst hn;exact Z5.1 h
 | row a=>
  simp only [mk,AV.ids,List.mem_singleton] at hn
  subst hn;exact Z5.1 h
 | _=>rw [Zsn _ d h] at hn;cases hn
theorem ZNO {k:Nat}:∀ {s:List Sh} {d:Ke s},s.all (lowSh k)=true→∀ n∈AV.idsL (mks s d),n<k
 | [],d,h,n,hn=>by cases hn
 | s::r,d,h,n,hn=>by
  simp only [List.all_cons,Bool.and_eq_true] at h
  simp only [mks,AV.idsL,List.mem_append] at hn
  rcases hn with hn | hn
  ·exact ZVJ h.1 n hn
  ·exact ZNO h.2 n hn
theorem ZUt {k:Nat} {s:BSh} {d:ZMs s} (h:lowB k s=true):∀ n∈(mkB s d).ids,n<k:=by
 cases s with
 | box cs=>exact ZNO (d:=d) h
 | row e=>intro n hn;cases hn
theorem ZGM {k:Nat}:∀ {s:List (Nat×BSh)} {d:Zfi s},s.all (fun p=>lowB k p.2)=true→∀ b∈(mkH s d).map (·.2),∀ n∈b.ids,n<k
 | [],d,h,b,hb,n,hn=>by cases hb
 | s::r,d,h,b,hb,n,hn=>by
  simp only [List.all_cons,Bool.and_eq_true] at h
  simp only [mkH,List.map_cons,List.mem_cons] at hb
  rcases hb with rfl | hb
  ·exact ZUt h.1 n hn
  ·exact ZGM h.2 b hb n hn
theorem ZJu:∀ (s:List (Nat×BSh)) (d:Zfi s),(mkH s d).length=s.length
 | [],d=>rfl
 | s::r,d=>by simp only [mkH,List.length_cons,ZJu r]
theorem ZGq:∀ (bs:List Blk) (i:Nat),(enumB i bs).map (·.2)=bs
 | [],i=>rfl
 | b::bs,i=>by simp only [enumB,List.map_cons,ZGq bs]
def meN (ash:List Sh) (hsh:List (Nat×BSh)) (rs:Sh) (ho:List (Nat×BSh)) (G:Ke ash→Zfi hsh→Option (ShD rs×Zfi ho)) (args:List AV) (bs:List Blk):Option (AV×List Blk):=
 (rds ash args).bind fun x=>(rdH hsh (enumB 0 bs)).bind fun y=>(G x y).map fun r=>(mk rs r.1,(mkH ho r.2).map (·.2))
def meC (ash:List Sh) (hsh:List (Nat×BSh)) (rs:Sh) (ho:List (Nat×BSh)) (G:Ke ash→Zfi hsh→Option (ShD rs×Zfi ho)):List AV→Prog AV:=meP (meN ash hsh rs ho G)
noncomputable def evMX (cx:Ctx) (keeps:FuncId→List Nat) (n:Nat) (g:FuncId) (ash:List Sh) (hsh:List (Nat×BSh)) (rs:Sh) (ho:List (Nat×BSh)) (x:Ke ash) (y:Zfi hsh):Option (ShD rs×Zfi ho):=
 evFX cx keeps n g (mks ash x) false ⟨mkH hsh y,hsh.length⟩ ⟨[],[]⟩ fun v h _=>(rd rs v).bind fun r=>(getB h.blks (List.range hsh.length)).bind fun bs=>(rdH ho (enumB 0 bs)).map fun z=>(r,z)
def qInM (sh:List Sh) (rs:Sh) (q:List AV→Prog AV) (args:List AV):Prog AV:=.opt (rds sh args) fun x=>(q (mks sh x)).bind fun v=>.opt (rd rs v) fun d=>.ret (mk rs d)
theorem ZRN {g:FuncId} {q:List AV→Prog AV} (hq:Zg P g q) {sh:List Sh} {rs:Sh} (hf:frees sh=true) (hrs:free rs=true):Zg P g (qInM (.ptr 0 0::sh) rs q):=by
 intro tr args h ft v h' ft' vals hdr S w ok e hr hm hv hi hO
 obtain ⟨x,e1,e2⟩:=ZB e
 obtain ⟨v0,h1,f1,e3,e4⟩:=Qe e2
 obtain ⟨d,e5,e6⟩:=ZB e4
 cases Zz e6
 have h0:0∈AV.idsL args:=by
  cases args with
  | nil=>simp [rds] at e1
  | cons a r=>
   simp only [rds,Option.bind_eq_some_iff] at e1
   obtain ⟨y,k1,_⟩:=e1
   have:a=mk (.ptr 0 0) y:=K5 _ _ _ rfl k1
   subst this
   simp [mk,AV.idsL,AV.ids]
 obtain ⟨c1,c2⟩:=hq tr _ h ft v0 _ _ vals hdr S w ok e3 hr hm (Zlo _ _ x vals e1 hv) (fun n hn=>by
  simp only [mks,AV.idsL,mk,AV.ids,List.mem_append,List.mem_singleton,Zlm _ _ hf] at hn
  rcases hn with rfl | hn
  ·exact hi 0 h0
  ·cases hn) hO
 refine ⟨c1,c2.mono ?_⟩
 rintro en w' ⟨u,hdr',S',rfl,p1,k3,k4⟩
 exact ⟨u,hdr',S',rfl,p1,ZOb rs v0 d u e5 k3,fun n hn=>by rw [Zsn rs d hrs] at hn;cases hn⟩
theorem ZSS {g:FuncId} {cx:Ctx} {keeps:FuncId→List Nat} {n:Nat} (hq:Zg P g (evF cx keeps n g)) {ash:List Sh} {hsh:List (Nat×BSh)} {rs:Sh} {ho:List (Nat×BSh)} (h1:frees ash=true) (h2:free rs=true)
  (h3:(Zlv hsh&&Zlv ho&&hsh.all (fun p=>lowB hsh.length p.2)&&ho.all (fun p=>lowB hsh.length p.2)&&Nat.beq ho.length hsh.length&&leB 1 hsh.length)=true)
  {G:Ke (.ptr 0 0::ash)→Zfi hsh→Option (ShD rs×Zfi ho)} (hG:∀ x y r,G x y=some r→evMX cx keeps n g (.ptr 0 0::ash) hsh rs ho x y=some r):Zg P g (meC (.ptr 0 0::ash) hsh rs ho G):=by
 simp only [Bool.and_eq_true] at h3
 obtain ⟨⟨⟨⟨⟨s1,s2⟩,l1⟩,l2⟩,le⟩,lk⟩:=h3
 have le:=Nat.eq_of_beq_eq_true le
 have lk:=Z5.1 lk
 refine ZTs (ZRN (sh:=ash) (rs:=rs) hq h1 h2) fun args bs v bs2 e=>?_
 simp only [meN,Option.bind_eq_some_iff,Option.map_eq_some_iff,Prod.mk.injEq] at e
 obtain ⟨x,e1,y,e2,⟨r,z⟩,e3,rfl,rfl⟩:=e
 have hb:=Zy5 s1 e2
 have hbs:bs=(mkH hsh y).map (·.2):=by rw [← hb,ZGq]
 have hlen:bs.length=hsh.length:=by rw [hbs,List.length_map,ZJu]
 have e4:=hG x y _ e3
 unfold evMX at e4
 rw [ZoX,JT,Option.bind_eq_some_iff] at e4
 obtain ⟨⟨v0,h2',fb⟩,e5,e6⟩:=e4
 simp only [Option.bind_eq_some_iff,Option.map_eq_some_iff,Prod.mk.injEq] at e6
 obtain ⟨r',e7,bs',e8,z',e9,rfl,rfl⟩:=e6
 have hb':=Zy5 s2 e9
 have hbs':bs'=(mkH ho z').map (·.2):=by rw [← hb',ZGq]
 obtain ⟨_,hat⟩:=ZJk e8
 refine ⟨fun n hn=>?_,fun b hbm n hn=>?_,Zsn rs r' h2,?_,fun b hbm n hn=>?_,h2',fb,?_,fun i hi=>?_⟩
 ·have h0:AV.idsL args=[0]∨AV.idsL args=[0]:=by
   cases args with
   | nil=>simp [rds] at e1
   | cons a rr=>
    simp only [rds,Option.bind_eq_some_iff] at e1
    obtain ⟨y0,k1,e1'⟩:=e1
    have ha:a=mk (.ptr 0 0) y0:=K5 _ _ _ rfl k1
    cases k3:rds ash rr with
    | none=>rw [k3] at e1';cases e1'
    | some k2=>
     have:=Zj3 ash rr k2 h1 k3
     subst ha
     simp [mk,AV.idsL,AV.ids,this]
  have h0:=h0.elim id id
  rw [h0,List.mem_singleton] at hn
  omega
 ·rw [hlen]
  rw [hbs] at hbm
  exact ZGM l1 b hbm n hn
 ·rw [List.length_map,ZJu,hlen,le]
 ·rw [hlen]
  exact ZGM l2 b hbm n hn
 ·have e5':ex (evF cx keeps n g (mks (.ptr 0 0::ash) x)) false ⟨enumB 0 bs,bs.length⟩ ⟨[],[]⟩=some (v0,h2',fb):=by rw [hb,hlen];exact e5
  show ex (Prog.opt (rds _ args) fun x=>(evF cx keeps n g (mks _ x)).bind fun v=>.opt (rd rs v) fun d=>.ret (mk rs d)) false _ _=_
  rw [e1]
  show ex ((evF cx keeps n g (mks _ x)).bind fun v=>.opt (rd rs v) fun d=>.ret (mk rs d)) false _ _=_
  unfold ex
  rw [run_bind,JT,e5']
  simp only [Option.bind_some,e7,run]
 ·have:=hat i i (by rw [List.getElem?_range (by omega)])
  rw [this,hbs']
def meQ (ash:List Sh) (hsh:List (Nat×BSh)) (rs:Sh) (ho:List (Nat×BSh)) (G:Ke ash→Zfi hsh→Option (ShD rs×Zfi ho)) (args:List AV):Prog AV:=match args with
 | .ptr id _::_=>.get id fun
  | .box cs=>.ite (Qn (id::ZbR cs)) (getsP (id::ZbR cs) fun bs=>
    .opt (rds ash (AV.renL (inOf (id::ZbR cs)) args)) fun x=>.opt (rdH hsh (enumB 0 (bs.map (Blk.ren (inOf (id::ZbR cs)))))) fun y=>.opt (G x y) fun r=>
     putsP (id::ZbR cs) (((mkH ho r.2).map (·.2)).map (Blk.ren (outOf (id::ZbR cs)))) (.ret (mk rs r.1))) .fail
  | .row _ _=>.fail
 | _=>.fail
theorem ZUL {R:Type} {tr:Bool} {K:AV→Hp→Foot→Option R} {k k':List Blk→Prog AV} (e:∀ bs h f,run (k bs) tr h f K=run (k' bs) tr h f K):∀ (ids:List Nat) (h:Hp) (f:Foot) ,run (getsP ids k) tr h f K=run (getsP ids k') tr h f K:=by
 intro ids
 induction ids generalizing k k' with
 | nil=>exact e []
 | cons i ids ih=>
  intro h f
  simp only [getsP,run]
  cases Zm h.blks i with
  | none=>rfl
  | some b=>exact ih (k:=fun bs=>k (b::bs)) (k':=fun bs=>k' (b::bs)) (fun bs=>e (b::bs)) h _
theorem ZYb {ash:List Sh} {hsh:List (Nat×BSh)} {rs:Sh} {ho:List (Nat×BSh)} {G:Ke ash→Zfi hsh→Option (ShD rs×Zfi ho)} (args:List AV) (tr:Bool) (h:Hp) (f:Foot):ex (meQ ash hsh rs ho G args) tr h f=ex (meC ash hsh rs ho G args) tr h f:=by
 unfold meQ meC meP
 cases args with
 | nil=>rfl
 | cons a r=>
 cases a
 case ptr id off=>
  unfold ex
  simp only [run]
  cases Zm h.blks id with
  | none=>rfl
  | some b=>
   cases b with
   | row e l=>rfl
   | box cs=>
    simp only [run]
    cases Qn (id::ZbR cs)
    ·rfl
    ·refine ZUL (fun bs h f=>?_) _ _ _
     simp only [run,meN]
     generalize rds ash _=a
     cases a with
     | none=>rfl
     | some x=>
      simp only [Option.bind_some]
      generalize rdH hsh _=b
      cases b with
      | none=>rfl
      | some y=>
       simp only [Option.bind_some]
       cases G x y<;>rfl
 all_goals rfl
theorem ZKH {g:FuncId} {cx:Ctx} {keeps:FuncId→List Nat} {n:Nat} (hq:Zg P g (evF cx keeps n g)) {ash:List Sh} {hsh:List (Nat×BSh)} {rs:Sh} {ho:List (Nat×BSh)} (h1:frees ash=true) (h2:free rs=true)
  (h3:(Zlv hsh&&Zlv ho&&hsh.all (fun p=>lowB hsh.length p.2)&&ho.all (fun p=>lowB hsh.length p.2)&&Nat.beq ho.length hsh.length&&leB 1 hsh.length)=true)
  {G:Ke (.ptr 0 0::ash)→Zfi hsh→Option (ShD rs×Zfi ho)} (hG:∀ x y r,G x y=some r→evMX cx keeps n g (.ptr 0 0::ash) hsh rs ho x y=some r):Zg P g (meQ (.ptr 0 0::ash) hsh rs ho G):=by
 intro tr args h ft v h' ft' vals hdr S w ok e
 rw [ZYb] at e
 exact ZSS hq h1 h2 h3 hG tr args h ft v h' ft' vals hdr S w ok e
end
end
abbrev ZgG:Type:=(((List Int)×((List Int)×(Int×((List C)×(Int×((List En)×((List A)×(Unit×(Unit×((List Int)×Unit))))))))))×((List E)×((List Int)×Unit)))
abbrev ZlI:Type:=(Bool×ZgG)
def Zng:List Sh:=[.ptr 0 0,.int .i64,.int .i64,.dat tE]
def ZpK:List Con:=[⟨112,ZrN,ZDJ⟩,⟨113,ZAf,ZLQ⟩,⟨114,ZCp,ZOp⟩]
def ZxT:List Sh:=[.int .i64,.int .i64,.dat tE]
def Zdy:List (Nat×BSh):=[(0,.box [.sl (.int .i64),.sl (.int .i64),.int .i64,.sl tC,.int .i64,.sl tEn,.sl tA,.row 1,.row 2,.sl (.int .i64)]),(1,.row tE),(2,.row (.int .i64))]
def Zf5 (a0 a1:Int) (a2:E) (b0 b1:List Int) (b2:Int) (b3:List C) (b4:Int) (b5:List En) (b6:List A) (b7:List Int) (b8:List E) (b9:List Int):Option ZlI:=bif !a2.1 then some (false,(b0,b1,b2,b3,b4,b5,b6,PUnit.unit,PUnit.unit,b7,PUnit.unit),b8,b9,PUnit.unit) else bif decide (0≤a1) then Za b8[a1.toNat]? none fun d14=>Za b8[a1.toNat]? none fun d15=>Za (Zha ([d15,a2],())) none fun d16=>bif decide (a1≤a0) then bif decide (0≤a1) then Za b9[a1.toNat]? none fun d17=>Za b9[a1.toNat]? none fun d18=>bif decide (d18≥3) then bif decide (0≤a1) then Za b8[a1.toNat]? none fun d19=>Za b8[a1.toNat]? none fun d20=>Za (Zox (d20,d16,b7,())) none fun d21=>bif decide (0≤a1) then Za b8[a1.toNat]? none fun d22=>Za b8[a1.toNat]? none fun d23=>Za (ZjR (d21,d23,())) none fun d24=>bif d24 then some (false,(b0,b1,b2,b3,b4,b5,b6,PUnit.unit,PUnit.unit,b7,PUnit.unit),b8,b9,PUnit.unit) else bif decide (0≤a1) then Za b8[a1.toNat]? none fun d25=>Za b8[a1.toNat]? none fun d26=>bif decide (a1≤a0) then bif decide (0≤a1) then Za b9[a1.toNat]? none fun d27=>Za b9[a1.toNat]? none fun d28=>bif decide (0≤a1) then Za b9[a1.toNat]? none fun d29=>Za b9[a1.toNat]? none fun d30=>some (true,(b0,b1,b2,b3,b4,b5,b6,PUnit.unit,PUnit.unit,b7,PUnit.unit),b8.set a1.toNat d21,b9.set a1.toNat (IntKind.i64.wrap (d28+1)),PUnit.unit) else none else none else some (true,(b0,b1,b2,b3,b4,b5,b6,PUnit.unit,PUnit.unit,b7,PUnit.unit),b8.set a1.toNat d21,b9,PUnit.unit) else none else none else none else bif decide (0≤a1) then Za b8[a1.toNat]? none fun d19=>Za b8[a1.toNat]? none fun d20=>
 Za (ZjR (d16,d20,())) none fun d21=>bif d21 then some (false,(b0,b1,b2,b3,b4,b5,b6,PUnit.unit,PUnit.unit,b7,PUnit.unit),b8,b9,PUnit.unit) else bif decide (0≤a1) then Za b8[a1.toNat]? none fun d22=>Za b8[a1.toNat]? none fun d23=>bif decide (a1≤a0) then bif decide (0≤a1) then Za b9[a1.toNat]? none fun d24=>Za b9[a1.toNat]? none fun d25=>bif decide (0≤a1) then Za b9[a1.toNat]? none fun d26=>Za b9[a1.toNat]? none fun d27=>some (true,(b0,b1,b2,b3,b4,b5,b6,PUnit.unit,PUnit.unit,b7,PUnit.unit),b8.set a1.toNat d16,b9.set a1.toNat (IntKind.i64.wrap (d25+1)),PUnit.unit) else none else none else some (true,(b0,b1,b2,b3,b4,b5,b6,PUnit.unit,PUnit.unit,b7,PUnit.unit),b8.set a1.toNat d16,b9,PUnit.unit) else none else none else none else bif decide (0≤a1) then Za b8[a1.toNat]? none fun d17=>Za b8[a1.toNat]? none fun d18=>Za (ZjR (d16,d18,())) none fun d19=>bif d19 then some (false,(b0,b1,b2,b3,b4,b5,b6,PUnit.unit,PUnit.unit,b7,PUnit.unit),b8,b9,PUnit.unit) else bif decide (0≤a1) then Za b8[a1.toNat]? none fun d20=>Za b8[a1.toNat]? none fun d21=>bif decide (a1≤a0) then bif decide (0≤a1) then Za b9[a1.toNat]? none fun d22=>Za b9[a1.toNat]? none fun d23=>bif decide (0≤a1) then Za b9[a1.toNat]? none fun d24=>Za b9[a1.toNat]? none fun d25=>some (true,(b0,b1,b2,b3,b4,b5,b6,PUnit.unit,PUnit.unit,b7,PUnit.unit),b8.set a1.toNat d16,b9.set a1.toNat (IntKind.i64.wrap (d23+1)),PUnit.unit) else none else none else some (true,(b0,b1,b2,b3,b4,b5,b6,PUnit.unit,PUnit.unit,b7,PUnit.unit),b8.set a1.toNat d16,b9,PUnit.unit) else none else none else none
theorem ZBz (a0 a1:Int) (a2:E) (b0 b1:List Int) (b2:Int) (b3:List C) (b4:Int) (b5:List En) (b6:List A) (b7:List Int) (b8:List E) (b9:List Int):evMX (cxU ZpK [] 40 1048576) keeps 8 80 Zng Zdy (.bool) Zdy (((),a0,a1,a2,()):(Unit×(Int×(Int×(E×Unit))))) (((b0,b1,b2,b3,b4,b5,b6,(),(),b7,()),b8,b9,()):ZgG)=Zf5 a0 a1 a2 b0 b1 b2 b3 b4 b5 b6 b7 b8 b9:=by kernel_rfl
def Wp (x:(Unit×(Int×(Int×(E×Unit))))) (y:ZgG):Option ZlI:=Zf5 x.2.1 x.2.2.1 x.2.2.2.1 y.1.1 y.1.2.1 y.1.2.2.1 y.1.2.2.2.1 y.1.2.2.2.2.1 y.1.2.2.2.2.2.1 y.1.2.2.2.2.2.2.1 y.1.2.2.2.2.2.2.2.2.2.1 y.2.1 y.2.2.1
def Zni:List AV→Prog AV:=meQ Zng Zdy (.bool) Zdy Wp
theorem ZBX:Zg Tryz.prog 80 Zni:=ZKH (ash:=ZxT) (calU ZpK [] 40 1048576 8 80) (by rfl) (by rfl) (by rfl) (fun x y r e=>(ZBz x.2.1 x.2.2.1 x.2.2.2.1 y.1.1 y.1.2.1 y.1.2.2.1 y.1.2.2.2.1 y.1.2.2.2.2.1 y.1.2.2.2.2.2.1 y.1.2.2.2.2.2.2.1 y.1.2.2.2.2.2.2.2.2.2.1 y.2.1 y.2.2.1).trans e)
abbrev Zxx:Type:=(Int×Int×Int×Int×(List Int)×Int×Int×(List O)×Bool×(List I)×(List I)×(List I)×Int×Int×Bool×(List I)×(List I)×(List I)×Int×Int×(List Int)×(List En)×(List Ac)×Int×Bool×(List Int)×(List Int)×Int×(List C)×Int×(List En)×(List A)×(List Int)×(List E)×(List Int)×Int×Bool×(List En)×(List Ac)×(List Al))
abbrev Zj6:Type:=(Int×Int×Int×Int×(List O)×Bool×(List I)×(List I)×(List I)×Int×Int×Bool×(List I)×(List I)×(List I)×Int×Int×(List Int)×(List En)×(List Ac)×Int×Bool×(List Int)×(List Int)×Int×(List C)×Int×(List En)×(List A)×(List Int)×(List E)×(List Int)×Int×Bool×(List En)×(List Ac)×(List Al))
abbrev Zxy:Type:=((List O)×Bool×(List I)×(List I)×(List I)×Int×Int×Bool×(List I)×(List I)×(List I)×Int×Int×(List Int)×(List En)×(List Ac)×Int×Bool×(List Int)×(List Int)×Int×(List C)×Int×(List En)×(List A)×(List Int)×(List E)×(List Int)×Int×Bool×(List En)×(List Ac)×(List Al))
abbrev Zxz:Type:=(Int×Int×Int×Int×Bool×(List Int)×(List Int)×Int×(List C)×Int×(List En)×(List A)×(List Int)×(List E)×(List Int)×Int×Bool×(List En)×(List Ac)×(List Al))
abbrev ZxA:Type:=(Int×Bool×(List Int)×(List Int)×Int×(List C)×Int×(List En)×(List A)×(List Int)×(List E)×(List Int)×Int×Bool×(List En)×(List Ac)×(List Al))
abbrev ZxB:Type:=(Bool×(List A)×Int×Int×Int×Bool×(List Int)×(List Int)×Int×(List C)×Int×(List En)×(List A)×(List Int)×(List E)×(List Int)×Int×Bool)
abbrev Zj7:Type:=(Int×(List A)×Int×Bool×(List Int)×(List Int)×Int×(List C)×Int×(List En)×(List A)×(List Int)×(List E)×(List Int)×Int×Bool)
abbrev ZxC:Type:=(Bool×Int×Bool×(List Int)×(List Int)×Int×(List C)×Int×(List En)×(List A)×(List Int)×(List E)×(List Int)×Int×Bool)
def ZO5:List Sh:=[.dat tU,.dat (.int .i64),.dat (.sl tEn)]
def ZtW:Nat→List Nat:=fun c=>bif c.beq 0 then [0,3,12,13,14] else [3]
def ZtV:Nat→List Nat:=fun c=>bif c.beq 0 then [1,6,7,8,9] else [1,6,7,8,9]
def Zmv:Nat→List Nat:=fun c=>bif c.beq 0 then [0,1,2,12,13,14,39,40,41] else [0,1,2,12,13,14]
def Zmu:Nat→List Nat:=fun c=>bif c.beq 0 then [0,1,2,12,13,14] else []
def Zmt:Nat→List Nat:=fun c=>bif c.beq 0 then [1,6,8,9,57,58] else [6,8,9]
def ZaN:List Con:=[⟨43,ZAe,ZLP⟩,⟨50,ZpV,ZAy⟩,⟨81,Zuv,ZFV⟩,⟨63,Zut,ZFT⟩,⟨80,Zni,ZBX⟩]
def ZhJ:StS:=⟨[(0,.ptr 1 0),(3,.bool),(12,.sl tA),(13,.int .i64),(14,.int .i64)],[(0,.box [.nil,.nil,.nil,.nil,.int .i64,.bool]),(1,.box [.sl (.int .i64),.sl (.int .i64),.int .i64,.sl tC,.int .i64,.sl tEn,.sl tA,.row 2,.row 3,.sl (.int .i64)]),(2,.row tE),(3,.row (.int .i64)),(4,.box [.nil,.nil,.nil,.nil,.int .i64,.bool])],5⟩
def Zbc:StS:=⟨[(3,.bool)],[(0,.box [.nil,.nil,.nil,.nil,.int .i64,.bool]),(1,.box [.sl (.int .i64),.sl (.int .i64),.int .i64,.sl tC,.int .i64,.sl tEn,.sl tA,.row 2,.row 3,.sl (.int .i64)]),(2,.row tE),(3,.row (.int .i64)),(4,.box [.nil,.nil,.nil,.nil,.int .i64,.bool])],5⟩
abbrev Zao:=ZxB
def ZEE:StD ZhJ→Zao:=fun ((_,a,b,c,d,_),((_,_,_,_,e,f,_),(g,h,i,j,k,l,m,_,_,n,_),o,p,(_,_,_,_,q,r,_),_))=>(a,b,c,d,e,f,g,h,i,j,k,l,m,n,o,p,q,r)
def ZFe:Zao→StD ZhJ:=fun (a,b,c,d,e,f,g,h,i,j,k,l,m,n,o,p,q,r)=>(((),a,b,c,d,()),(((),(),(),(),e,f,()),(g,h,i,j,k,l,m,(),(),n,()),o,p,((),(),(),(),q,r,()),()))
abbrev Ko:=ZxC
def ZA1:StD Zbc→Ko:=fun ((a,_),((_,_,_,_,b,c,_),(d,e,f,g,h,i,j,_,_,k,_),l,m,(_,_,_,_,n,o,_),_))=>(a,b,c,d,e,f,g,h,i,j,k,l,m,n,o)
def ZiR:Ko→StD Zbc:=fun (a,b,c,d,e,f,g,h,i,j,k,l,m,n,o)=>((a,()),(((),(),(),(),b,c,()),(d,e,f,g,h,i,j,(),(),k,()),l,m,((),(),(),(),n,o,()),()))
def ZbT (s3:Bool) (s12:List A) (s13 s14 b0:Int) (b0_1:Bool) (b1 b1_1:List Int) (b1_2:Int) (b1_3:List C) (b1_4:Int) (b1_5:List En) (b1_6:List A) (b1_7:List Int) (b2:List E) (b3:List Int) (b4:Int) (b4_1:Bool):Option (ZxB⊕ZxC):=bif decide (s14<s13) then bif decide (0≤s14) then Za s12[s14.toNat]? none fun d24=>bif decide (0≤s14) then Za b2[s14.toNat]? none fun d25=>Za b2[s14.toNat]? none fun d26=>Za (ZcK ((b1,b1_1,b1_2,b1_3),b1_4,s14,d26,b1_5,())) none fun d27=>Za (Wp ((),s14,d24.2.2.2.2.2.2.2.1,d27.1,()) ((b1,b1_1,b1_2,b1_3,b1_4,b1_5,b1_6,(),(),b1_7,()),b2,b3,())) none fun d28=>Za (Wp ((),s14,d24.2.2.2.2.2.2.2.2,d27.2.1,()) ((d28.2.1.1,d28.2.1.2.1,d28.2.1.2.2.1,d28.2.1.2.2.2.1,d28.2.1.2.2.2.2.1,d28.2.1.2.2.2.2.2.1,d28.2.1.2.2.2.2.2.2.1,(),(),d28.2.1.2.2.2.2.2.2.2.2.2.1,()),d28.2.2.1,d28.2.2.2.1,())) none fun d29=>bif s3 then some (.inl (true,s12,s13,IntKind.i64.wrap (s14+1),b0,b0_1,d29.2.1.1,d29.2.1.2.1,d29.2.1.2.2.1,d29.2.1.2.2.2.1,d29.2.1.2.2.2.2.1,d29.2.1.2.2.2.2.2.1,d29.2.1.2.2.2.2.2.2.1,d29.2.1.2.2.2.2.2.2.2.2.2.1,d29.2.2.1,d29.2.2.2.1,b4,b4_1)) else bif d28.1 then some (.inl (true,s12,s13,IntKind.i64.wrap (s14+1),b0,b0_1,d29.2.1.1,d29.2.1.2.1,d29.2.1.2.2.1,d29.2.1.2.2.2.1,d29.2.1.2.2.2.2.1,d29.2.1.2.2.2.2.2.1,d29.2.1.2.2.2.2.2.2.1,d29.2.1.2.2.2.2.2.2.2.2.2.1,d29.2.2.1,d29.2.2.2.1,b4,b4_1)) else some (.inl (d29.1,s12,s13,IntKind.i64.wrap (s14+1),b0,b0_1,d29.2.1.1,d29.2.1.2.1,d29.2.1.2.2.1,d29.2.1.2.2.2.1,d29.2.1.2.2.2.2.1,d29.2.1.2.2.2.2.2.1,d29.2.1.2.2.2.2.2.2.1,d29.2.1.2.2.2.2.2.2.2.2.2.1,
 d29.2.2.1,d29.2.2.2.1,b4,b4_1)) else none else none else some (.inr (s3,b0,b0_1,b1,b1_1,b1_2,b1_3,b1_4,b1_5,b1_6,b1_7,b2,b3,b4,b4_1))
def ZqZ:Zao→Option (Zao⊕Ko):=fun (a,b,c,d,e,f,g,h,i,j,k,l,m,n,o,p,q,r)=>ZbT a b c d e f g h i j k l m n o p q r
def ZcZ (x:Zao):Option Ko:=Zn ZqZ Zr x
def ZwN:Nat→Tm→Prog (Nat×Tm):=(varP 5 (fun T h=>(rdS ZhJ T h).map ZEE) ZcZ (altE 2 Zbc ZiR) (fun _ _=>.fail))
def Kb:Lpc:=⟨51,0,45,(fun base T=>.norm base (ZtW 0) T (ZwN base)),by kernel_rfl,by kernel_rfl,(loopU ZaN [] 40 1048576 8 (keep:=ZtW) (q:=ZwN) (by kernel_rfl) (ZA (s:=ZhJ) (un:=ZFe) (by rfl) (fun _=>rfl) (Zp (s:=Zbc) (un:=ZiR) (flat:=ZA1) (by rfl) (fun _=>rfl)) (step:=ZqZ) (fun _=>by kernel_rfl) (fun _ _ e=>⟨_,e⟩) (Zo 2 Zbc ZiR) (ZI.fail _ _)))⟩
abbrev ZVb:=cxU ZaN [Kb] 40 1048576
def ZhH:StS:=⟨[(1,.int .i64),(6,.ptr 0 0),(7,.sl tA),(8,.ptr 1 0),(9,.ptr 4 0)],[(0,.box [.nil,.nil,.nil,.nil,.int .i64,.bool]),(1,.box [.sl (.int .i64),.sl (.int .i64),.int .i64,.sl tC,.int .i64,.sl tEn,.sl tA,.row 2,.row 3,.sl (.int .i64)]),(2,.row tE),(3,.row (.int .i64)),(4,.box [.nil,.nil,.nil,.nil,.int .i64,.bool])],5⟩
def Zba:StS:=⟨[(1,.int .i64),(6,.ptr 0 0),(7,.sl tA),(8,.ptr 1 0),(9,.ptr 4 0)],[(0,.box [.nil,.nil,.nil,.nil,.int .i64,.bool]),(1,.box [.sl (.int .i64),.sl (.int .i64),.int .i64,.sl tC,.int .i64,.sl tEn,.sl tA,.row 2,.row 3,.sl (.int .i64)]),(2,.row tE),(3,.row (.int .i64)),(4,.box [.nil,.nil,.nil,.nil,.int .i64,.bool])],5⟩
abbrev Zc3:=Zj7
def ZEC:StD ZhH→Zc3:=fun ((a,_,b,_,_,_),((_,_,_,_,c,d,_),(e,f,g,h,i,j,k,_,_,l,_),m,n,(_,_,_,_,o,p,_),_))=>(a,b,c,d,e,f,g,h,i,j,k,l,m,n,o,p)
def ZFc:Zc3→StD ZhH:=fun (a,b,c,d,e,f,g,h,i,j,k,l,m,n,o,p)=>((a,(),b,(),(),()),(((),(),(),(),c,d,()),(e,f,g,h,i,j,k,(),(),l,()),m,n,((),(),(),(),o,p,()),()))
abbrev ZeJ:=Zj7
def ZAZ:StD Zba→ZeJ:=fun ((a,_,b,_,_,_),((_,_,_,_,c,d,_),(e,f,g,h,i,j,k,_,_,l,_),m,n,(_,_,_,_,o,p,_),_))=>(a,b,c,d,e,f,g,h,i,j,k,l,m,n,o,p)
def ZiP:ZeJ→StD Zba:=fun (a,b,c,d,e,f,g,h,i,j,k,l,m,n,o,p)=>((a,(),b,(),(),()),(((),(),(),(),c,d,()),(e,f,g,h,i,j,k,(),(),l,()),m,n,((),(),(),(),o,p,()),()))
def Zga (s1:Int) (s7:List A) (b0:Int) (b0_1:Bool) (b1 b1_1:List Int) (b1_2:Int) (b1_3:List C) (b1_4:Int) (b1_5:List En) (b1_6:List A) (b1_7:List Int) (b2:List E) (b3:List Int) (b4:Int) (b4_1:Bool):Option (Zj7⊕Zj7):=bif !b4_1 then bif decide (b4<100) then Za (ZcZ (false,b1_6,(b1_6.length:Int),0,b0,b0_1,b1,b1_1,b1_2,b1_3,b1_4,b1_5,b1_6,b1_7,b2,b3,IntKind.i64.wrap (b4+1),b4_1)) none fun d22=>some (.inl (s1,s7,d22.2.1,d22.2.2.1,d22.2.2.2.1,d22.2.2.2.2.1,d22.2.2.2.2.2.1,d22.2.2.2.2.2.2.1,d22.2.2.2.2.2.2.2.1,d22.2.2.2.2.2.2.2.2.1,d22.2.2.2.2.2.2.2.2.2.1,d22.2.2.2.2.2.2.2.2.2.2.1,d22.2.2.2.2.2.2.2.2.2.2.2.1,d22.2.2.2.2.2.2.2.2.2.2.2.2.1,d22.2.2.2.2.2.2.2.2.2.2.2.2.2.1,!d22.1)) else some (.inr (s1,s7,b0,b0_1,b1,b1_1,b1_2,b1_3,b1_4,b1_5,b1_6,b1_7,b2,b3,b4,b4_1)) else some (.inr (s1,s7,b0,b0_1,b1,b1_1,b1_2,b1_3,b1_4,b1_5,b1_6,b1_7,b2,b3,b4,b4_1))
def Ww:Zc3→Option (Zc3⊕ZeJ):=fun (a,b,c,d,e,f,g,h,i,j,k,l,m,n,o,p)=>Zga a b c d e f g h i j k l m n o p
def Zhb (x:Zc3):Option ZeJ:=Zn Ww Zr x
def ZwL:Nat→Tm→Prog (Nat×Tm):=(varP 0 (fun T h=>(rdS ZhH T h).map ZEC) Zhb (altE 2 Zba ZiP) (fun _ _=>.fail))
def VD:Lpc:=⟨24,0,75,(fun base T=>.norm base (ZtV 0) T (ZwL base)),by kernel_rfl,by kernel_rfl,(loopU ZaN [Kb] 40 1048576 8 (keep:=ZtV) (q:=ZwL) (by kernel_rfl) (ZA (s:=ZhH) (un:=ZFc) (by rfl) (fun _=>rfl) (Zp (s:=Zba) (un:=ZiP) (flat:=ZAZ) (by rfl) (fun _=>rfl)) (step:=Ww) (fun _=>by kernel_rfl) (fun _ _ e=>⟨_,e⟩) (Zo 2 Zba ZiP) (ZI.fail _ _)))⟩
abbrev ZVe:=cxU ZaN [Kb,VD] 40 1048576
def ZhL:StS:=⟨[(0,.ptr 4 0),(1,.int .i64),(2,.int .i64),(12,.row 32153036021279864200481066319758226432430515945481),(13,.int .i64),(14,.int .i64),(39,.sl (.int .i64)),(40,.int .i64),(41,.int .i64)],[(32153036021279864200481066319758226432430515945481,.row tO),(8,.box [.bool,.sl tI,.sl tI,.sl tI,.int .i64,.int .i64,.bool,.sl tI,.sl tI,.sl tI,.int .i64,.int .i64,.sl (.int .i64),.sl tEn,.sl tAc]),(0,.box [.nil,.nil,.nil,.nil,.int .i64,.bool]),(1,.box [.sl (.int .i64),.sl (.int .i64),.int .i64,.sl tC,.int .i64,.sl tEn,.sl tA,.row 2,.row 3,.sl (.int .i64)]),(2,.row tE),(3,.row (.int .i64)),(4,.box [.nil,.row 32153036021279864200481066319758226432430515945482,.row 32153036021279864200481066319758226432430515945483,.row 32153036021279864200481066319758226432430515945484,.int .i64,.bool]),(32153036021279864200481066319758226432430515945482,.row tEn),(32153036021279864200481066319758226432430515945483,.row tAc),(32153036021279864200481066319758226432430515945484,.row tAl)],32153036021279864200481066319758226432430515945485⟩
def Zbe:StS:=⟨[(0,.ptr 4 0),(1,.int .i64),(2,.int .i64),(12,.row 32153036021279864200481066319758226432430515945481),(13,.int .i64),(14,.int .i64)],[(32153036021279864200481066319758226432430515945481,.row tO),(8,.box [.bool,.sl tI,.sl tI,.sl tI,.int .i64,.int .i64,.bool,.sl tI,.sl tI,.sl tI,.int .i64,.int .i64,.sl (.int .i64),.sl tEn,.sl tAc]),(0,.box [.nil,.nil,.nil,.nil,.int .i64,.bool]),(1,.box [.sl (.int .i64),.sl (.int .i64),.int .i64,.sl tC,.int .i64,.sl tEn,.sl tA,.row 2,.row 3,.sl (.int .i64)]),(2,.row tE),(3,.row (.int .i64)),(4,.box [.nil,.row 32153036021279864200481066319758226432430515945482,.row 32153036021279864200481066319758226432430515945483,.row 32153036021279864200481066319758226432430515945484,.int .i64,.bool]),(32153036021279864200481066319758226432430515945482,.row tEn),(32153036021279864200481066319758226432430515945483,.row tAc),(32153036021279864200481066319758226432430515945484,.row tAl)],32153036021279864200481066319758226432430515945485⟩
abbrev Zap:=Zxx
def ZEG:StD ZhL→Zap:=fun ((_,a,b,_,c,d,e,f,g,_),(h,(i,j,k,l,m,n,o,p,q,r,s,t,u,w,y,_),(_,_,_,_,z,au,_),(aw,ay,az,bu,bw,bz,cu,_,_,cw,_),cy,cz,(_,_,_,_,du,dw,_),dy,dz,eu,_))=>(a,b,c,d,e,f,g,h,i,j,k,l,m,n,o,p,q,r,s,t,u,w,y,z,au,aw,ay,az,bu,bw,bz,cu,cw,cy,cz,du,dw,dy,dz,eu)
def ZFg:Zap→StD ZhL:=fun (a,b,c,d,e,f,g,h,i,j,k,l,m,n,o,p,q,r,s,t,u,w,y,z,au,aw,ay,az,bu,bw,bz,cu,cw,cy,cz,du,dw,dy,dz,eu)=>(((),a,b,(),c,d,e,f,g,()),(h,(i,j,k,l,m,n,o,p,q,r,s,t,u,w,y,()),((),(),(),(),z,au,()),(aw,ay,az,bu,bw,bz,cu,(),(),cw,()),cy,cz,((),(),(),(),du,dw,()),dy,dz,eu,()))
abbrev Kp:=Zj6
def ZA3:StD Zbe→Kp:=fun ((_,a,b,_,c,d,_),(e,(f,g,h,i,j,k,l,m,n,o,p,q,r,s,t,_),(_,_,_,_,u,w,_),(y,z,au,aw,ay,az,bu,_,_,bw,_),bz,cu,(_,_,_,_,cw,cy,_),cz,du,dw,_))=>(a,b,c,d,e,f,g,h,i,j,k,l,m,n,o,p,q,r,s,t,u,w,y,z,au,aw,ay,az,bu,bw,bz,cu,cw,cy,cz,du,dw)
def ZiT:Kp→StD Zbe:=fun (a,b,c,d,e,f,g,h,i,j,k,l,m,n,o,p,q,r,s,t,u,w,y,z,au,aw,ay,az,bu,bw,bz,cu,cw,cy,cz,du,dw)=>(((),a,b,(),c,d,()),(e,(f,g,h,i,j,k,l,m,n,o,p,q,r,s,t,()),((),(),(),(),u,w,()),(y,z,au,aw,ay,az,bu,(),(),bw,()),bz,cu,((),(),(),(),cw,cy,()),cz,du,dw,()))
def ZbU (s1 s2 s13 s14:Int) (s39:List Int) (s40 s41:Int) (bq0:List O) (b8:Bool) (b8_1 b8_2 b8_3:List I) (b8_4 b8_5:Int) (b8_6:Bool) (b8_7 b8_8 b8_9:List I) (b8_10 b8_11:Int) (b8_12:List Int) (b8_13:List En) (b8_14:List Ac) (b0:Int) (b0_1:Bool) (b1 b1_1:List Int) (b1_2:Int) (b1_3:List C) (b1_4:Int) (b1_5:List En) (b1_6:List A) (b1_7:List Int) (b2:List E) (b3:List Int) (b4:Int) (b4_1:Bool) (bq1:List En) (bq2:List Ac) (bq3:List Al):Option (Zxx⊕Zj6):=bif decide (s41<s40) then bif decide (0≤s41) then Za s39[s41.toNat]? none fun d46=>bif decide ((bq3.length+[(1,s1,s2,d46,0,0)].length+1)*48≤lim) then some (.inl (s1,s2,s13,s14,s39,s40,IntKind.i64.wrap (s41+1),bq0,b8,b8_1,b8_2,b8_3,b8_4,b8_5,b8_6,b8_7,b8_8,b8_9,b8_10,b8_11,b8_12,b8_13,b8_14,b0,b0_1,b1,b1_1,b1_2,b1_3,b1_4,b1_5,b1_6,b1_7,b2,b3,b4,b4_1,bq1,bq2,bq3++[(1,s1,s2,d46,0,0)])) else none else none else some (.inr (s1,s2,s13,s14,bq0,b8,b8_1,b8_2,b8_3,b8_4,b8_5,b8_6,b8_7,b8_8,b8_9,b8_10,b8_11,b8_12,b8_13,b8_14,b0,b0_1,b1,b1_1,b1_2,b1_3,b1_4,b1_5,b1_6,b1_7,b2,b3,b4,b4_1,bq1,bq2,bq3))
def Zq0:Zap→Option (Zap⊕Kp):=fun (a,b,c,d,e,f,g,h,i,j,k,l,m,n,o,p,q,r,s,t,u,w,y,z,au,aw,ay,az,bu,bw,bz,cu,cw,cy,cz,du,dw,dy,dz,eu)=>ZbU a b c d e f g h i j k l m n o p q r s t u w y z au aw ay az bu bw bz cu cw cy cz du dw dy dz eu
def Zhe (x:Zap):Option Kp:=Zn Zq0 Zr x
def ZwP:Nat→Tm→Prog (Nat×Tm):=(varP 32153036021279864200481066319758226432430515945482 (fun T h=>(rdS ZhL T h).map ZEG) Zhe (altE 4 Zbe ZiT) (fun _ _=>.fail))
def ZeU:Lpc:=⟨52,2,60,(slP [] [] [(0,1),(0,2),(0,3)] (Zmv 0) (fun base T=>.norm base (Zmv 0) T (ZwP base))),by kernel_rfl,by kernel_rfl,(ZOo (loopU ZaN [Kb,VD] 40 1048576 8 (keep:=Zmv) (q:=ZwP) (by kernel_rfl) (ZA (s:=ZhL) (un:=ZFg) (by rfl) (fun _=>rfl) (Zp (s:=Zbe) (un:=ZiT) (flat:=ZA3) (by rfl) (fun _=>rfl)) (step:=Zq0) (fun _=>by kernel_rfl) (fun _ _ e=>⟨_,e⟩) (Zo 4 Zbe ZiT) (ZI.fail _ _))))⟩
abbrev ZVd:=cxU ZaN [Kb,VD,ZeU] 40 1048576
def ZhK:StS:=⟨[(0,.ptr 4 0),(1,.int .i64),(2,.int .i64),(12,.row 32153036021279864200481066319758226432430515945481),(13,.int .i64),(14,.int .i64)],[(32153036021279864200481066319758226432430515945481,.row tO),(8,.box [.bool,.sl tI,.sl tI,.sl tI,.int .i64,.int .i64,.bool,.sl tI,.sl tI,.sl tI,.int .i64,.int .i64,.sl (.int .i64),.sl tEn,.sl tAc]),(0,.box [.nil,.nil,.nil,.nil,.int .i64,.bool]),(1,.box [.sl (.int .i64),.sl (.int .i64),.int .i64,.sl tC,.int .i64,.sl tEn,.sl tA,.row 2,.row 3,.sl (.int .i64)]),(2,.row tE),(3,.row (.int .i64)),(4,.box [.nil,.row 32153036021279864200481066319758226432430515945482,.row 32153036021279864200481066319758226432430515945483,.row 32153036021279864200481066319758226432430515945484,.int .i64,.bool]),(32153036021279864200481066319758226432430515945482,.row tEn),(32153036021279864200481066319758226432430515945483,.row tAc),(32153036021279864200481066319758226432430515945484,.row tAl)],32153036021279864200481066319758226432430515945485⟩
def Zbd:StS:=⟨[],[(32153036021279864200481066319758226432430515945481,.row tO),(8,.box [.bool,.sl tI,.sl tI,.sl tI,.int .i64,.int .i64,.bool,.sl tI,.sl tI,.sl tI,.int .i64,.int .i64,.sl (.int .i64),.sl tEn,.sl tAc]),(0,.box [.nil,.nil,.nil,.nil,.int .i64,.bool]),(1,.box [.sl (.int .i64),.sl (.int .i64),.int .i64,.sl tC,.int .i64,.sl tEn,.sl tA,.row 2,.row 3,.sl (.int .i64)]),(2,.row tE),(3,.row (.int .i64)),(4,.box [.nil,.row 32153036021279864200481066319758226432430515945482,.row 32153036021279864200481066319758226432430515945483,.row 32153036021279864200481066319758226432430515945484,.int .i64,.bool]),(32153036021279864200481066319758226432430515945482,.row tEn),(32153036021279864200481066319758226432430515945483,.row tAc),(32153036021279864200481066319758226432430515945484,.row tAl)],32153036021279864200481066319758226432430515945485⟩
abbrev Zc5:=Zj6
def ZEF:StD ZhK→Zc5:=fun ((_,a,b,_,c,d,_),(e,(f,g,h,i,j,k,l,m,n,o,p,q,r,s,t,_),(_,_,_,_,u,w,_),(y,z,au,aw,ay,az,bu,_,_,bw,_),bz,cu,(_,_,_,_,cw,cy,_),cz,du,dw,_))=>(a,b,c,d,e,f,g,h,i,j,k,l,m,n,o,p,q,r,s,t,u,w,y,z,au,aw,ay,az,bu,bw,bz,cu,cw,cy,cz,du,dw)
def ZFf:Zc5→StD ZhK:=fun (a,b,c,d,e,f,g,h,i,j,k,l,m,n,o,p,q,r,s,t,u,w,y,z,au,aw,ay,az,bu,bw,bz,cu,cw,cy,cz,du,dw)=>(((),a,b,(),c,d,()),(e,(f,g,h,i,j,k,l,m,n,o,p,q,r,s,t,()),((),(),(),(),u,w,()),(y,z,au,aw,ay,az,bu,(),(),bw,()),bz,cu,((),(),(),(),cw,cy,()),cz,du,dw,()))
abbrev ZeL:=Zxy
def ZA2:StD Zbd→ZeL:=fun (_,(a,(b,c,d,e,f,g,h,i,j,k,l,m,n,o,p,_),(_,_,_,_,q,r,_),(s,t,u,w,y,z,au,_,_,aw,_),ay,az,(_,_,_,_,bu,bw,_),bz,cu,cw,_))=>(a,b,c,d,e,f,g,h,i,j,k,l,m,n,o,p,q,r,s,t,u,w,y,z,au,aw,ay,az,bu,bw,bz,cu,cw)
def ZiS:ZeL→StD Zbd:=fun (a,b,c,d,e,f,g,h,i,j,k,l,m,n,o,p,q,r,s,t,u,w,y,z,au,aw,ay,az,bu,bw,bz,cu,cw)=>((),(a,(b,c,d,e,f,g,h,i,j,k,l,m,n,o,p,()),((),(),(),(),q,r,()),(s,t,u,w,y,z,au,(),(),aw,()),ay,az,((),(),(),(),bu,bw,()),bz,cu,cw,()))
def ZqY (s1 s2 s13 s14:Int) (bq0:List O) (b8:Bool) (b8_1 b8_2 b8_3:List I) (b8_4 b8_5:Int) (b8_6:Bool) (b8_7 b8_8 b8_9:List I) (b8_10 b8_11:Int) (b8_12:List Int) (b8_13:List En) (b8_14:List Ac) (b0:Int) (b0_1:Bool) (b1 b1_1:List Int) (b1_2:Int) (b1_3:List C) (b1_4:Int) (b1_5:List En) (b1_6:List A) (b1_7:List Int) (b2:List E) (b3:List Int) (b4:Int) (b4_1:Bool) (bq1:List En) (bq2:List Ac) (bq3:List Al):Option (Zj6⊕Zxy):=bif decide (s14<s13) then bif decide (0≤s14) then Za bq0[s14.toNat]? none fun d43=>Za bq0[s14.toNat]? none fun d44=>Za (Zlc (bq1,d44.2.2.2.1,())) none fun d45=>bif decide ((bq2.length+List.length d44.2.2.2.2+1)*48≤lim) then Za (Zhe (s1,s2,s13,s14,d44.2.2.1,(List.length d44.2.2.1:Int),0,bq0,b8,b8_1,b8_2,b8_3,b8_4,b8_5,b8_6,b8_7,b8_8,b8_9,b8_10,b8_11,b8_12,b8_13,b8_14,b0,b0_1,b1,b1_1,b1_2,b1_3,b1_4,b1_5,b1_6,b1_7,b2,b3,b4,b4_1,d45,bq2++d44.2.2.2.2,bq3)) none fun d46=>some (.inl (d46.1,d46.2.1,d46.2.2.1,IntKind.i64.wrap (d46.2.2.2.1+1),d46.2.2.2.2.1,d46.2.2.2.2.2.1,d46.2.2.2.2.2.2.1,d46.2.2.2.2.2.2.2.1,d46.2.2.2.2.2.2.2.2.1,d46.2.2.2.2.2.2.2.2.2.1,d46.2.2.2.2.2.2.2.2.2.2.1,d46.2.2.2.2.2.2.2.2.2.2.2.1,d46.2.2.2.2.2.2.2.2.2.2.2.2.1,d46.2.2.2.2.2.2.2.2.2.2.2.2.2.1,d46.2.2.2.2.2.2.2.2.2.2.2.2.2.2.1,d46.2.2.2.2.2.2.2.2.2.2.2.2.2.2.2.1,d46.2.2.2.2.2.2.2.2.2.2.2.2.2.2.2.2.1,d46.2.2.2.2.2.2.2.2.2.2.2.2.2.2.2.2.2.1,d46.2.2.2.2.2.2.2.2.2.2.2.2.2.2.2.2.2.2.1,d46.2.2.2.2.2.2.2.2.2.2.2.2.2.2.2.2.2.2.2.1,d46.2.2.2.2.2.2.2.2.2.2.2.2.2.2.2.2.2.2.2.2.1,d46.2.2.2.2.2.2.2.2.2.2.2.2.2.2.2.2.2.2.2.2.2.1,d46.2.2.2.2.2.2.2.2.2.2.2.2.2.2.2.2.2.2.2.2.2.2.1,
 d46.2.2.2.2.2.2.2.2.2.2.2.2.2.2.2.2.2.2.2.2.2.2.2.1,d46.2.2.2.2.2.2.2.2.2.2.2.2.2.2.2.2.2.2.2.2.2.2.2.2.1,d46.2.2.2.2.2.2.2.2.2.2.2.2.2.2.2.2.2.2.2.2.2.2.2.2.2.1,d46.2.2.2.2.2.2.2.2.2.2.2.2.2.2.2.2.2.2.2.2.2.2.2.2.2.2.1,d46.2.2.2.2.2.2.2.2.2.2.2.2.2.2.2.2.2.2.2.2.2.2.2.2.2.2.2.1,d46.2.2.2.2.2.2.2.2.2.2.2.2.2.2.2.2.2.2.2.2.2.2.2.2.2.2.2.2.1,d46.2.2.2.2.2.2.2.2.2.2.2.2.2.2.2.2.2.2.2.2.2.2.2.2.2.2.2.2.2.1,d46.2.2.2.2.2.2.2.2.2.2.2.2.2.2.2.2.2.2.2.2.2.2.2.2.2.2.2.2.2.2.1,d46.2.2.2.2.2.2.2.2.2.2.2.2.2.2.2.2.2.2.2.2.2.2.2.2.2.2.2.2.2.2.2.1,d46.2.2.2.2.2.2.2.2.2.2.2.2.2.2.2.2.2.2.2.2.2.2.2.2.2.2.2.2.2.2.2.2.1,d46.2.2.2.2.2.2.2.2.2.2.2.2.2.2.2.2.2.2.2.2.2.2.2.2.2.2.2.2.2.2.2.2.2.1,d46.2.2.2.2.2.2.2.2.2.2.2.2.2.2.2.2.2.2.2.2.2.2.2.2.2.2.2.2.2.2.2.2.2.2.1,d46.2.2.2.2.2.2.2.2.2.2.2.2.2.2.2.2.2.2.2.2.2.2.2.2.2.2.2.2.2.2.2.2.2.2.2.1,d46.2.2.2.2.2.2.2.2.2.2.2.2.2.2.2.2.2.2.2.2.2.2.2.2.2.2.2.2.2.2.2.2.2.2.2.2)) else none else none else some (.inr (bq0,b8,b8_1,b8_2,b8_3,b8_4,b8_5,b8_6,b8_7,b8_8,b8_9,b8_10,b8_11,b8_12,b8_13,b8_14,b0,b0_1,b1,b1_1,b1_2,b1_3,b1_4,b1_5,b1_6,b1_7,b2,b3,b4,b4_1,bq1,bq2,bq3))
def Zkw:Zc5→Option (Zc5⊕ZeL):=fun (a,b,c,d,e,f,g,h,i,j,k,l,m,n,o,p,q,r,s,t,u,w,y,z,au,aw,ay,az,bu,bw,bz,cu,cw,cy,cz,du,dw)=>ZqY a b c d e f g h i j k l m n o p q r s t u w y z au aw ay az bu bw bz cu cw cy cz du dw
def Zhd (x:Zc5):Option ZeL:=Zn Zkw Zr x
def ZwO:Nat→Tm→Prog (Nat×Tm):=(varP 32153036021279864200481066319758226432430515945482 (fun T h=>(rdS ZhK T h).map ZEF) Zhd (altE 2 Zbd ZiS) (fun _ _=>.fail))
def Zmx:Lpc:=⟨52,0,60,(slP [] [] [(0,1),(0,2),(0,3)] (Zmu 0) (fun base T=>.norm base (Zmu 0) T (ZwO base))),by kernel_rfl,by kernel_rfl,(ZOo (loopU ZaN [Kb,VD,ZeU] 40 1048576 8 (keep:=Zmu) (q:=ZwO) (by kernel_rfl) (ZA (s:=ZhK) (un:=ZFf) (by rfl) (fun _=>rfl) (Zp (s:=Zbd) (un:=ZiS) (flat:=ZA2) (by rfl) (fun _=>rfl)) (step:=Zkw) (fun _=>by kernel_rfl) (fun _ _ e=>⟨_,e⟩) (Zo 2 Zbd ZiS) (ZI.fail _ _))))⟩
abbrev ZVc:=cxU ZaN [Kb,VD,ZeU,Zmx] 40 1048576
def ZhI:StS:=⟨[(1,.int .i64),(6,.ptr 0 0),(8,.ptr 1 0),(9,.ptr 4 0),(57,.int .i64),(58,.int .i64)],[(0,.box [.nil,.nil,.nil,.nil,.int .i64,.bool]),(1,.box [.sl (.int .i64),.sl (.int .i64),.int .i64,.sl tC,.int .i64,.sl tEn,.sl tA,.row 2,.row 3,.sl (.int .i64)]),(2,.row tE),(3,.row (.int .i64)),(4,.box [.nil,.row 5,.row 6,.row 7,.int .i64,.bool]),(5,.row tEn),(6,.row tAc),(7,.row tAl)],8⟩
def Zbb:StS:=⟨[(6,.ptr 0 0),(8,.ptr 1 0),(9,.ptr 4 0)],[(0,.box [.nil,.nil,.nil,.nil,.int .i64,.bool]),(1,.box [.sl (.int .i64),.sl (.int .i64),.int .i64,.sl tC,.int .i64,.sl tEn,.sl tA,.row 2,.row 3,.sl (.int .i64)]),(2,.row tE),(3,.row (.int .i64)),(4,.box [.nil,.row 5,.row 6,.row 7,.int .i64,.bool]),(5,.row tEn),(6,.row tAc),(7,.row tAl)],8⟩
abbrev Zc4:=Zxz
def ZED:StD ZhI→Zc4:=fun ((a,_,_,_,b,c,_),((_,_,_,_,d,e,_),(f,g,h,i,j,k,l,_,_,m,_),n,o,(_,_,_,_,p,q,_),r,s,t,_))=>(a,b,c,d,e,f,g,h,i,j,k,l,m,n,o,p,q,r,s,t)
def ZFd:Zc4→StD ZhI:=fun (a,b,c,d,e,f,g,h,i,j,k,l,m,n,o,p,q,r,s,t)=>((a,(),(),(),b,c,()),(((),(),(),(),d,e,()),(f,g,h,i,j,k,l,(),(),m,()),n,o,((),(),(),(),p,q,()),r,s,t,()))
abbrev ZeK:=ZxA
def ZA0:StD Zbb→ZeK:=fun ((_,_,_,_),((_,_,_,_,a,b,_),(c,d,e,f,g,h,i,_,_,j,_),k,l,(_,_,_,_,m,n,_),o,p,q,_))=>(a,b,c,d,e,f,g,h,i,j,k,l,m,n,o,p,q)
def ZiQ:ZeK→StD Zbb:=fun (a,b,c,d,e,f,g,h,i,j,k,l,m,n,o,p,q)=>(((),(),(),()),(((),(),(),(),a,b,()),(c,d,e,f,g,h,i,(),(),j,()),k,l,((),(),(),(),m,n,()),o,p,q,()))
def Zkv (s1 s57 s58 b0:Int) (b0_1:Bool) (b1 b1_1:List Int) (b1_2:Int) (b1_3:List C) (b1_4:Int) (b1_5:List En) (b1_6:List A) (b1_7:List Int) (b2:List E) (b3:List Int) (b4:Int) (b4_1:Bool) (b5:List En) (b6:List Ac) (b7:List Al):Option (Zxz⊕ZxA):=bif decide (s58<s57) then bif decide (0≤s58) then Za b2[s58.toNat]? none fun d26=>Za b2[s58.toNat]? none fun d27=>Za (ZcK ((b1,b1_1,b1_2,b1_3),b1_4,s58,d27,b1_5,())) none fun d28=>Za (Zhd (s1,s58,(↑[d28].length:Int),0,[d28],d28.1.1,d28.1.2.1,d28.1.2.2.1,d28.1.2.2.2.1,d28.1.2.2.2.2.1,d28.1.2.2.2.2.2,d28.2.1.1,d28.2.1.2.1,d28.2.1.2.2.1,d28.2.1.2.2.2.1,d28.2.1.2.2.2.2.1,d28.2.1.2.2.2.2.2,d28.2.2.1,d28.2.2.2.1,d28.2.2.2.2,b0,b0_1,b1,b1_1,b1_2,b1_3,b1_4,b1_5,b1_6,b1_7,b2,b3,b4,b4_1,b5,b6,b7)) none fun d29=>some (.inl (s1,s57,IntKind.i64.wrap (s58+1),d29.2.2.2.2.2.2.2.2.2.2.2.2.2.2.2.2.1,d29.2.2.2.2.2.2.2.2.2.2.2.2.2.2.2.2.2.1,d29.2.2.2.2.2.2.2.2.2.2.2.2.2.2.2.2.2.2.1,d29.2.2.2.2.2.2.2.2.2.2.2.2.2.2.2.2.2.2.2.1,d29.2.2.2.2.2.2.2.2.2.2.2.2.2.2.2.2.2.2.2.2.1,d29.2.2.2.2.2.2.2.2.2.2.2.2.2.2.2.2.2.2.2.2.2.1,d29.2.2.2.2.2.2.2.2.2.2.2.2.2.2.2.2.2.2.2.2.2.2.1,d29.2.2.2.2.2.2.2.2.2.2.2.2.2.2.2.2.2.2.2.2.2.2.2.1,d29.2.2.2.2.2.2.2.2.2.2.2.2.2.2.2.2.2.2.2.2.2.2.2.2.1,d29.2.2.2.2.2.2.2.2.2.2.2.2.2.2.2.2.2.2.2.2.2.2.2.2.2.1,d29.2.2.2.2.2.2.2.2.2.2.2.2.2.2.2.2.2.2.2.2.2.2.2.2.2.2.1,d29.2.2.2.2.2.2.2.2.2.2.2.2.2.2.2.2.2.2.2.2.2.2.2.2.2.2.2.1,d29.2.2.2.2.2.2.2.2.2.2.2.2.2.2.2.2.2.2.2.2.2.2.2.2.2.2.2.2.1,d29.2.2.2.2.2.2.2.2.2.2.2.2.2.2.2.2.2.2.2.2.2.2.2.2.2.2.2.2.2.1,d29.2.2.2.2.2.2.2.2.2.2.2.2.2.2.2.2.2.2.2.2.2.2.2.2.2.2.2.2.2.2.1,
 d29.2.2.2.2.2.2.2.2.2.2.2.2.2.2.2.2.2.2.2.2.2.2.2.2.2.2.2.2.2.2.2.1,d29.2.2.2.2.2.2.2.2.2.2.2.2.2.2.2.2.2.2.2.2.2.2.2.2.2.2.2.2.2.2.2.2)) else none else some (.inr (b0,b0_1,b1,b1_1,b1_2,b1_3,b1_4,b1_5,b1_6,b1_7,b2,b3,b4,b4_1,b5,b6,b7))
def Zb0:Zc4→Option (Zc4⊕ZeK):=fun (a,b,c,d,e,f,g,h,i,j,k,l,m,n,o,p,q,r,s,t)=>Zkv a b c d e f g h i j k l m n o p q r s t
def Zhc (x:Zc4):Option ZeK:=Zn Zb0 Zr x
def ZwM:Nat→Tm→Prog (Nat×Tm):=(varP 0 (fun T h=>(rdS ZhI T h).map ZED) Zhc (altE 4 Zbb ZiQ) (fun _ _=>.fail))
def ZHR:Lpc:=⟨24,2,75,(ownP [(4,1,tEn),(4,2,tAc),(4,3,tAl)] [] (Zmt 0) (fun base T=>.norm base (Zmt 0) T (ZwM base))),by kernel_rfl,by kernel_rfl,(HB (loopU ZaN [Kb,VD,ZeU,Zmx] 40 1048576 8 (keep:=Zmt) (q:=ZwM) (by kernel_rfl) (ZA (s:=ZhI) (un:=ZFd) (by rfl) (fun _=>rfl) (Zp (s:=Zbb) (un:=ZiQ) (flat:=ZA0) (by rfl) (fun _=>rfl)) (step:=Zb0) (fun _=>by kernel_rfl) (fun _ _ e=>⟨_,e⟩) (Zo 4 Zbb ZiQ) (ZI.fail _ _))))⟩
def Zg4 (a0:U) (a1:Int) (a2:List En):Option Re:=bif decide (0≤a1) then Za a0.2.2.2[a1.toNat]? none fun d9=>bif decide (0≤(List.length d9.2:Int)∧(List.length d9.2:Int)=(List.length d9.2:Int)∧(List.length d9.2:Int).toNat*(96+1)≤lim) then bif decide (0≤(List.length d9.2:Int)∧(List.length d9.2:Int)=(List.length d9.2:Int)∧(List.length d9.2:Int).toNat*(8+1)≤lim) then Za (Zow (a0,())) none fun d10=>Za (Zig (a0,a1,())) none fun d11=>Za (List.replicate (List.length d9.2:Int).toNat ((false,[],[],[],0,0):E))[Int.toNat (0:Int)]? none fun d12=>Za (List.replicate (List.length d9.2:Int).toNat ((false,[],[],[],0,0):E))[Int.toNat (0:Int)]? none fun d13=>Za (Zhb (a1,d9.2,0,false,a0.1,a0.2.1,a0.2.2.1,a0.2.2.2,a1,a2,d9.2,d10,(List.replicate (List.length d9.2:Int).toNat ((false,[],[],[],0,0):E)).set (Int.toNat (0:Int)) d11,List.replicate (List.length d9.2:Int).toNat 0,0,false)) none fun d14=>Za (Zhc (d14.1,(d14.2.1.length:Int),0,d14.2.2.1,d14.2.2.2.1,d14.2.2.2.2.1,d14.2.2.2.2.2.1,d14.2.2.2.2.2.2.1,d14.2.2.2.2.2.2.2.1,d14.2.2.2.2.2.2.2.2.1,d14.2.2.2.2.2.2.2.2.2.1,d14.2.2.2.2.2.2.2.2.2.2.1,d14.2.2.2.2.2.2.2.2.2.2.2.1,d14.2.2.2.2.2.2.2.2.2.2.2.2.1,d14.2.2.2.2.2.2.2.2.2.2.2.2.2.1,d14.2.2.2.2.2.2.2.2.2.2.2.2.2.2.1,d14.2.2.2.2.2.2.2.2.2.2.2.2.2.2.2,[],[],[])) none fun d15=>some (d15.2.2.2.2.2.2.2.2.2.2.1,d15.2.2.2.2.2.2.2.2.2.2.2.2.2.2.1,d15.2.2.2.2.2.2.2.2.2.2.2.2.2.2.2.1,d15.2.2.2.2.2.2.2.2.2.2.2.2.2.2.2.2,d15.2.2.2.2.2.2.2.2.2.2.2.2.1,d15.2.2.2.2.2.2.2.2.2.2.2.2.2.1) else none else none else none
def Zg0 (x:(U×(Int×((List En)×Unit)))):Option Re:=Zg4 x.1 x.2.1 x.2.2.1
def Zkz:=conP true ZO5 (.dat tR) Zg0
theorem ZoP:Zg Tryz.prog 24 Zkz:=Ze (calU ZaN [Kb,VD,ZeU,Zmx,ZHR] 40 1048576 8 24) true (by rfl) (by rfl) (fun x r e=>(Zk _ _ _ _ _ _ _).trans ((show _=Zg0 x by kernel_rfl).trans e)) (.inl rfl)
def ZtG:List Sh:=[]
def Zxq:List Con:=[⟨24,Zkz,ZoP⟩]
def Zh6:Option Bool:=Za (Zg0 (([],[],0,[(0,[(12,0,0,0,0,0,0,1,0),(14,0,0,0,0,0,0,1,0)])]),0,[],())) none fun d1=>bif d1.2.2.2.2.2 then bif d1.2.2.2.2.1==2 then bif (List.length d1.1:Int)==2 then Za d1.1[Int.toNat 1]? none fun d2=>some d2.1 else some false else some false else some false
theorem ZH9:evGX (cxU Zxq [] 40 1048576) keeps 8 26 ZtG (.dat .bool) (():Unit)=Zh6:=by kernel_rfl
def KI (x:Unit):Option Bool:=Zh6
def Zi4:=conP true ZtG (.dat .bool) KI
theorem ZmN:Zg Tryz.prog 26 Zi4:=Ze (calU Zxq [] 40 1048576 8 26) true (by rfl) (by rfl) (fun x r e=>(Zk _ _ _ _ _ _ _).trans ((ZH9 ).trans e)) (.inl rfl)
abbrev ZaO:Type:=((Unit×(Unit×((List Int)×Unit)))×((List E)×((List Int)×Unit)))
def ZeS (a0 a1:Int) (a2:E) (b0:List Int) (b1:List E) (b2:List Int):Option (Bool×ZaO):=bif !a2.1 then some (false,(PUnit.unit,PUnit.unit,b0,PUnit.unit),b1,b2,PUnit.unit) else bif decide (0≤a1) then Za b1[a1.toNat]? none fun d7=>Za b1[a1.toNat]? none fun d8=>Za (ZcV (d8,a2,())) none fun d9=>bif decide (a1≤a0) then bif decide (0≤a1) then Za b2[a1.toNat]? none fun d10=>Za b2[a1.toNat]? none fun d11=>bif decide (d11≥3) then bif decide (0≤a1) then Za b1[a1.toNat]? none fun d12=>Za b1[a1.toNat]? none fun d13=>Za (ZkL (d13,d9,b0,())) none fun d14=>bif decide (0≤a1) then Za b1[a1.toNat]? none fun d15=>Za b1[a1.toNat]? none fun d16=>Za (Vq (d14,d16,())) none fun d17=>bif d17 then some (false,(PUnit.unit,PUnit.unit,b0,PUnit.unit),b1,b2,PUnit.unit) else bif decide (0≤a1) then Za b1[a1.toNat]? none fun d18=>Za b1[a1.toNat]? none fun d19=>bif decide (a1≤a0) then bif decide (0≤a1) then Za b2[a1.toNat]? none fun d20=>Za b2[a1.toNat]? none fun d21=>bif decide (0≤a1) then Za b2[a1.toNat]? none fun d22=>Za b2[a1.toNat]? none fun d23=>some (true,(PUnit.unit,PUnit.unit,b0,PUnit.unit),b1.set a1.toNat d14,b2.set a1.toNat (IntKind.i64.wrap (d21+1)),PUnit.unit) else none else none else some (true,(PUnit.unit,PUnit.unit,b0,PUnit.unit),b1.set a1.toNat d14,b2,PUnit.unit) else none else none else none else bif decide (0≤a1) then Za b1[a1.toNat]? none fun d12=>Za b1[a1.toNat]? none fun d13=>Za (Vq (d9,d13,())) none fun d14=>bif d14 then some (false,(PUnit.unit,PUnit.unit,b0,PUnit.unit),b1,b2,PUnit.unit) else bif decide (0≤a1) then Za b1[a1.toNat]? none fun d15=>
 Za b1[a1.toNat]? none fun d16=>bif decide (a1≤a0) then bif decide (0≤a1) then Za b2[a1.toNat]? none fun d17=>Za b2[a1.toNat]? none fun d18=>bif decide (0≤a1) then Za b2[a1.toNat]? none fun d19=>Za b2[a1.toNat]? none fun d20=>some (true,(PUnit.unit,PUnit.unit,b0,PUnit.unit),b1.set a1.toNat d9,b2.set a1.toNat (IntKind.i64.wrap (d18+1)),PUnit.unit) else none else none else some (true,(PUnit.unit,PUnit.unit,b0,PUnit.unit),b1.set a1.toNat d9,b2,PUnit.unit) else none else none else none else bif decide (0≤a1) then Za b1[a1.toNat]? none fun d10=>Za b1[a1.toNat]? none fun d11=>Za (Vq (d9,d11,())) none fun d12=>bif d12 then some (false,(PUnit.unit,PUnit.unit,b0,PUnit.unit),b1,b2,PUnit.unit) else bif decide (0≤a1) then Za b1[a1.toNat]? none fun d13=>Za b1[a1.toNat]? none fun d14=>bif decide (a1≤a0) then bif decide (0≤a1) then Za b2[a1.toNat]? none fun d15=>Za b2[a1.toNat]? none fun d16=>bif decide (0≤a1) then Za b2[a1.toNat]? none fun d17=>Za b2[a1.toNat]? none fun d18=>some (true,(PUnit.unit,PUnit.unit,b0,PUnit.unit),b1.set a1.toNat d9,b2.set a1.toNat (IntKind.i64.wrap (d16+1)),PUnit.unit) else none else none else some (true,(PUnit.unit,PUnit.unit,b0,PUnit.unit),b1.set a1.toNat d9,b2,PUnit.unit) else none else none else none
def Hj (x:(Unit×(Int×(Int×(E×Unit))))) (y:ZaO):Option (Bool×ZaO):=ZeS x.2.1 x.2.2.1 x.2.2.2.1 y.1.2.2.1 y.2.1 y.2.2.1
section
open Go.Proofs
def okE (u:U) (t:Int) (x:E):Prop:=x=Zf∨(x.1=true∧envOK u t x)
section
variable {u:U} {t:Int}
theorem okE.env {x:E} (h:okE u t x):x.1=true→envOK u t x:=fun k=>by
 rcases h with rfl | h
 ·cases k
 ·exact h.2
theorem okE.sz {x:E} (hu:unitOK u) (h:okE u t x):szE x:=by
 rcases h with rfl | h
 ·exact ⟨by decide,by decide,by decide⟩
 ·exact Zl9 hu h.2
def nxtV (st:List Int) (fr to:Int) (old e:E) (n:Int):E:=if to≤fr∧n≥3 then eJoin (widF st) old (eJoin Zl old e) else eJoin Zl old e
def comeV (st:List Int) (fr to:Int) (e:E) (es:List E) (ns:List Int):Bool×List E×List Int:=
 match e.1,es[to.toNat]?,ns[to.toNat]? with
 | true,some old,some n=>bif sameE (nxtV st fr to old e n) old then (false,es,ns) else (true,es.set to.toNat (nxtV st fr to old e n),if to≤fr then ns.set to.toNat (IntKind.i64.wrap (n+1)) else ns)
 | _,_,_=>(false,es,ns)
theorem ZbI {F:I→I→I} {a b:E} (h:b.1=true):(eJoin F a b).1=true:=by
 unfold eJoin
 cases ha:a.1<;>rw [h]<;>simp only [cond_true,cond_false]
 ·exact h
 ·rfl
theorem ZS2 {st:List Int} {fr to:Int} {old e:E} {n:Int} (ho:okE u t old) (he1:e.1=true) (he:envOK u t e):(nxtV st fr to old e n).1=true∧envOK u t (nxtV st fr to old e n):=by
 have h1:=ZbI (F:=Zl) (a:=old) he1
 have h2:=Zjj Zst ho.env (fun _=>he) h1
 unfold nxtV
 split
 ·exact ⟨ZbI h1,Zjj (ZJz st) ho.env (fun _=>h2) (ZbI h1)⟩
 ·exact ⟨h1,h2⟩
theorem ZSV (hu:unitOK u) {st:List Int} (hst:st.length<9223372036854775807) {fr to:Int} {e:E} {es:List E} {ns:List Int} (hes:∀ x∈es,okE u t x) (he:e.1=true→envOK u t e) (h0:0≤to) (h1:to.toNat<es.length) (hl:ns.length=es.length) :
  ZeS fr to e st es ns=some ((comeV st fr to e es ns).1,((),(),st,()),(comeV st fr to e es ns).2.1,(comeV st fr to e es ns).2.2,()):=by
 unfold ZeS comeV
 cases he1:e.1
 ·rfl
 have he:=he he1
 have e0:decide (0≤to)=true:=dT0 h0
 have g1:es[to.toNat]? = some es[to.toNat]:=List.getElem?_eq_getElem h1
 have g2:ns[to.toNat]? = some (ns[to.toNat]'(by omega)):=List.getElem?_eq_getElem _
 have ho:=hes _ (List.getElem_mem h1)
 generalize es[to.toNat]=old at g1 ho
 generalize ns[to.toNat]'(by omega)=n at g2
 have s0:=ho.sz hu
 have j0:Zmp old e=some (eJoin Zl old e):=by rw [ZDq s0,ZNd (fun x y hx hy=>Zav hy) ho.env (fun _=>he)]
 have k1:=ZbI (F:=Zl) (a:=old) he1
 have k2:=Zjj Zst ho.env (fun _=>he) k1
 have w0:ZkS old (eJoin Zl old e) st=some (eJoin (widF st) old (eJoin Zl old e)):=by
  rw [ZLK hst s0,ZNd (F:=widF st) (G:=rwidF st) (fun x y hx hy=>ZTE hx hy st) ho.env (fun _=>k2)]
 have k3:=ZbI (F:=widF st) (a:=old) k1
 have k4:=Zjj (ZJz st) ho.env (fun _=>k2) k3
 have s1:=Zqa (a:=eJoin Zl old e) (b:=old) fun _=>Zl9 hu k2
 have s2:=Zqa (a:=eJoin (widF st) old (eJoin Zl old e)) (b:=old) fun _=>Zl9 hu k4
 simp only [Bool.not_true,cond_false,cond_true,e0,g1,g2,Zc,ZcV,ZkL,Vq,j0,w0,s1,s2]
 unfold nxtV
 by_cases c1:to≤fr
 ·by_cases c2:n≥3
  ·rw [dT0 c1,dT0 c2,if_pos ⟨c1,c2⟩,if_pos c1]
   cases sameE (eJoin (widF st) old (eJoin Zl old e)) old<;>rfl
  ·rw [dT0 c1,dF0 c2,if_neg (fun k=>c2 k.2),if_pos c1]
   cases sameE (eJoin Zl old e) old<;>rfl
 ·rw [dF0 c1,if_neg (fun k=>c1 k.1),if_neg c1]
  cases sameE (eJoin Zl old e) old<;>rfl
theorem ZQK (hu:unitOK u) {st:List Int} (hst:st.length<9223372036854775807) {fr to:Int} {e:E} {es:List E} {ns:List Int} {b0 b1:List Int} {b2:Int} {b3:List C} {b4:Int} {b5:List En} {b6:List A} (hes:∀ x∈es,okE u t x) (he:e.1=true→envOK u t e) (h0:0≤to) (h1:to.toNat<es.length) (hl:ns.length=es.length) :
  Zf5 fr to e b0 b1 b2 b3 b4 b5 b6 st es ns=some ((comeV st fr to e es ns).1,(b0,b1,b2,b3,b4,b5,b6,(),(),st,()),(comeV st fr to e es ns).2.1,(comeV st fr to e es ns).2.2,()):=by
 unfold Zf5 comeV
 cases he1:e.1
 ·rfl
 have he:=he he1
 have e0:decide (0≤to)=true:=dT0 h0
 have g1:es[to.toNat]? = some es[to.toNat]:=List.getElem?_eq_getElem h1
 have g2:ns[to.toNat]? = some (ns[to.toNat]'(by omega)):=List.getElem?_eq_getElem _
 have ho:=hes _ (List.getElem_mem h1)
 generalize es[to.toNat]=old at g1 ho
 generalize ns[to.toNat]'(by omega)=n at g2
 have s0:=ho.sz hu
 have se:=Zl9 hu he
 have j0:=ZHW s0 se
 have k1:=ZbI (F:=Zl) (a:=old) he1
 have k2:=Zjj Zst ho.env (fun _=>he) k1
 have w0:=ZPq (b:=eJoin Zl old e) hst s0 (Zl9 hu k2)
 have k3:=ZbI (F:=widF st) (a:=old) k1
 have k4:=Zjj (ZJz st) ho.env (fun _=>k2) k3
 have s1:=ZHX (a:=eJoin Zl old e) (b:=old) fun _=>Zl9 hu k2
 have s2:=ZHX (a:=eJoin (widF st) old (eJoin Zl old e)) (b:=old) fun _=>Zl9 hu k4
 simp only [Bool.not_true,cond_false,cond_true,e0,g1,g2,Zc,Zha,Zox,ZjR,j0,w0,s1,s2]
 unfold nxtV
 by_cases c1:to≤fr
 ·by_cases c2:n≥3
  ·rw [dT0 c1,dT0 c2,if_pos ⟨c1,c2⟩,if_pos c1]
   cases sameE (eJoin (widF st) old (eJoin Zl old e)) old<;>rfl
  ·rw [dT0 c1,dF0 c2,if_neg (fun k=>c2 k.2),if_pos c1]
   cases sameE (eJoin Zl old e) old<;>rfl
 ·rw [dF0 c1,if_neg (fun k=>c1 k.1),if_neg c1]
  cases sameE (eJoin Zl old e) old<;>rfl
theorem ZEd {st:List Int} {fr to:Int} {e:E} {es:List E} {ns:List Int} (hes:∀ x∈es,okE u t x) (he:e.1=true→envOK u t e) :
  (∀ x∈(comeV st fr to e es ns).2.1,okE u t x)∧(comeV st fr to e es ns).2.1.length=es.length∧(comeV st fr to e es ns).2.2.length=ns.length:=by
 unfold comeV
 split
 ·rename_i old n he1 g1 g2
  cases sameE (nxtV st fr to old e n) old
  ·simp only [cond_false]
   refine ⟨fun x hx=>?_,by simp,by split<;>simp⟩
   rcases List.mem_or_eq_of_mem_set hx with k | rfl
   ·exact hes x k
   ·exact .inr (ZS2 (hes old (mG0 g1)) he1 (he he1))
  ·exact ⟨hes,rfl,rfl⟩
 ·exact ⟨hes,rfl,rfl⟩
end
end
end
end Go.Proofs.YtbdcblpjemmipaaGreat.Ex
