/- A part of the proofs of what is known of threads: HH. -/
import Derived.Test.YtbdcblpjemmipaaGreatHG
import Derived.Test.YtbdcblpjemmipaaGreatHF
import Derived.Test.YtbdcblpjemmipaaGreatHE
import Derived.Laws.CopyRow
import Derived.Lib.AppendZerosOnto
import Derived.Shelf.Spec.SlicesInsert
import Derived.Test.YtbdcblpjemmipaaGreatHD
import Derived.Test.YtbdcblpjemmipaaGreatHC
namespace Go.Proofs.YtbdcblpjemmipaaGreat.Ex
open Go.Proofs
set_option maxRecDepth 100000
set_option maxHeartbeats 4000000
set_option linter.unusedVariables false
set_option linter.unusedSimpArgs false
set_option linter.unusedSectionVars false
noncomputable section
section
open Go.Proofs
structure outOK (u:U) (t n:Int) (e:E) (o:O):Prop where
 nx:o.1.1=true→envOK u t o.1
 el:o.2.1.1=true→envOK u t o.2.1
 off:e.1=false→o=(offE,offE,[],[],[])
 al:o.2.2.1.length≤2∧∀ x∈o.2.2.1,x≠0
 st:o.2.2.2.1.length≤1∧∀ x∈o.2.2.2.1,entOK x∧x.1=t
 ac:o.2.2.2.2.length≤1∧∀ x∈o.2.2.2.2,x.1=t∧x.2.1=n∧x.2.2.2.2.2=e.2.2.2.2.1
section
variable {u:U} {t n:Int} {e:E} {l:List En} {c:C}
theorem VM:offE.1=true→envOK u t offE:=fun h=>nomatch h
theorem ZwB {b:Bool} {x:E} (h:b=false→x.1=true→envOK u t x):(bif b then offE else x).1=true→envOK u t (bif b then offE else x):=by
 cases b
 ·exact h rfl
 ·exact fun k=>nomatch k
theorem bif_ok' {b:Bool} {x:E} (h:b=true→envOK u t x):(bif b then x else offE).1=true→envOK u t (bif b then x else offE):=by
 cases b
 ·exact fun k=>nomatch k
 ·exact fun _=>h rfl
theorem ZhJ (he:e.1=true) {x y:E} {al:List Int} {st:List En} {ac:List Ac} (hx:x.1=true→envOK u t x) (hy:y.1=true→envOK u t y) (ha:al.length≤2∧∀ x∈al,x≠0)
  (hs:st.length≤1∧∀ x∈st,entOK x∧x.1=t) (hc:ac.length≤1∧∀ x∈ac,x.1=t∧x.2.1=n∧x.2.2.2.2.2=e.2.2.2.2.1):outOK u t n e (x,y,al,st,ac):=
 ⟨hx,hy,fun k=>by rw [he] at k;(cases k),ha,hs,hc⟩
theorem al0:([]:List Int).length≤2∧∀ x∈([]:List Int),x≠0:=⟨by decide,fun x k=>nomatch k⟩
theorem al1 (b:Bool) {k:Int} (hk:k≠0):(bif b then [k] else []).length≤2∧∀ x∈(bif b then [k] else []),x≠0:=by
 cases b
 ·exact al0
 ·exact ⟨by simp,fun x h=>by rw [List.mem_singleton.1 h];exact hk⟩
theorem al1' (b:Bool) {k:Int} (hk:k≠0):(bif b then [] else [k]).length≤2∧∀ x∈(bif b then [] else [k]),x≠0:=by
 cases b
 ·exact ⟨by simp,fun x h=>by rw [List.mem_singleton.1 h];exact hk⟩
 ·exact al0
theorem st0:([]:List En).length≤1∧∀ x∈([]:List En),entOK x∧x.1=t:=⟨by decide,fun x k=>nomatch k⟩
theorem st1 {d:En} (h:entOK d) (k:d.1=t):[d].length≤1∧∀ x∈[d],entOK x∧x.1=t:=⟨by simp,fun x q=>by rw [List.mem_singleton.1 q];exact ⟨h,k⟩⟩
theorem ac0 {m:Int}:([]:List Ac).length≤1∧∀ x∈([]:List Ac),x.1=t∧x.2.1=n∧x.2.2.2.2.2=m:=⟨by decide,fun x k=>nomatch k⟩
theorem ac1 {m:Int} {a:Bool} {g:Int} {w:Bool}:[((t,n,a,g,w,m):Ac)].length≤1∧∀ x∈[((t,n,a,g,w,m):Ac)],x.1=t∧x.2.1=n∧x.2.2.2.2.2=m:=⟨by simp,fun x q=>by rw [List.mem_singleton.1 q];exact ⟨rfl,rfl,rfl⟩⟩
theorem ZXJ (he:envOK u t e) {x y:I} (hx:isB x=true∧Zd x=false) (hy:isB y=true∧Zd y=false) (X Y r:Int):(sideV e X Y r x y).1=true→envOK u t (sideV e X Y r x y):=by
 have hr:=Z3o r hx.1 hy.1 hx.2 hy.2
 unfold sideV
 cases X==Y
 ·simp only [cond_false]
  exact ZwB fun h1=>ZwB fun h2 _=>Zfz (Zfz he X ⟨hr.1,h1⟩) Y ⟨hr.2,h2⟩
 ·simp only [cond_true]
  exact ZwB fun h _=>Zfz (Zfz he X ⟨Znd hr.1 hr.2 h,h⟩) Y ⟨Znd hr.1 hr.2 h,h⟩
theorem ZhE {p q:Option O} {v:O} {R:O→Prop} (h1:∃ o,p=some o∧q=some o∧VN o) (h2:p=some v) (h3:R v):∃ o,p=some o∧q=some o∧R o∧VN o:=by
 obtain ⟨o,k1,k2,k3⟩:=h1
 rw [h2] at k1
 cases k1
 exact ⟨v,h2,k2,h3,k3⟩
theorem Z2w (hu:unitOK u) (ht:0≤t) (hl:tabOK l) (hn:l.length≤1000) (he:e.1=true→envOK u t e) (h1:0≤n) (hc:u.2.2.2[t.toNat]? = some c) (h2:n<(c.2.length:Int)) :
  ∃ o,Za2 u t n e l=some o∧ZnD u t n e l=some o∧outOK u t n e o∧VN o:=by
 obtain ⟨a,ga⟩:=ZL c.2 n ⟨h1,h2⟩
 cases he1:e.1
 ·obtain ⟨on,V,G,A,must,may⟩:=e
  cases he1
  have e0:decide (0≤t)=true:=dT0 ht
  have e1:decide (0≤n)=true:=dT0 h1
  refine ⟨((Bool.false,[],[],[],0,0),(Bool.false,[],[],[],0,0),[],[],[]),?_,rfl,⟨VM,VM,fun _=>rfl,al0,st0,ac0⟩,⟨⟨by decide,by decide,by decide⟩,⟨by decide,by decide,by decide⟩,by decide,by decide,by decide⟩⟩
  unfold Za2
  rw [e0,hc,e1,cond_true,Zb,cond_true,ga,Zb]
  rfl
 have hE:=he he1
 have ha:=(hu.ts c (mG0 hc)).a a (mG0 ga)
 rw [ZRf u t n e l c a ht hc h1 ga he1,Z5V u t n e l c a ht hc h1 ga he1]
 have hle:=hl.e
 obtain ⟨cc,hc',hv⟩:=hE.c
 obtain rfl:cc=c:=by rw [hc] at hc';exact (Option.some.inj hc').symm
 have vx:∀ {X:Int},0≤X∧X<cc.1→∃ x,e.2.1[X.toNat]? = some x∧isB x=true∧Zd x=false:=fun {X} h=>by
  obtain ⟨x,gx⟩:=ZL e.2.1 X (by omega)
  exact ⟨x,gx,envV hE x (mG0 gx)⟩
 have gx:∀ {G:Int},0≤G∧G<(u.1.length:Int)→∃ x,e.2.2.1[G.toNat]? = some x∧isB x=true∧Zd x=false:=fun {G} h=>by
  obtain ⟨x,gx⟩:=ZL e.2.2.1 G (by rw [hE.g];exact h)
  exact ⟨x,gx,envG hE x (mG0 gx)⟩
 have ax:∀ {G:Int},0≤G∧G<(u.2.1.length:Int)→∃ x m,e.2.2.2.1[G.toNat]? = some x∧(isB x=true∧Zd x=false)∧u.2.1[G.toNat]? = some m∧1≤m∧m≤2147483648:=fun {G} h=>by
  obtain ⟨x,gx⟩:=ZL e.2.2.2.1 G (by rw [hE.a];exact h)
  obtain ⟨m,gm⟩:=ZL u.2.1 G h
  have:=hu.ars m (mG0 gm)
  exact ⟨x,m,gx,envA hE x (mG0 gx),gm,this.1,by omega⟩
 have hb:=hE.must
 have hy:=hE.may
 obtain ⟨k,T,X,Y,G,N,op,nx,el⟩:=a
 have k1:1≤k:=ha.k1
 have k2:k≤14:=ha.k2
 have hk:k=1∨k=2∨k=3∨k=4∨k=5∨k=6∨k=7∨k=8∨k=9∨k=10∨k=11∨k=12∨k=13∨k=14:=by omega
 rcases hk with rfl | rfl | rfl | rfl | rfl | rfl | rfl | rfl | rfl | rfl | rfl | rfl | rfl | rfl
 ·have hf:=JH.1 ha.n
  refine ZhE (Z6C u t n e l cc T X Y G N op nx el ht hu hl hn hE hc ha) (ZRr u t n e l cc T X Y G N op nx el hu hle hn hE hc ha) (ZhJ he1 (fun _=>Zfz hE T ⟨Zjv hf.1 (Int.le_refl _) hf.2,Z8 (Int.le_refl _)⟩) VM al0 st0 ac0)
 ·obtain ⟨x,g1,hx⟩:=vx (Zy.1 ha.h2)
  exact ZhE (Z6D u t n e l cc T X Y G N op nx el ht hu hl hn hE hc ha) (ZRs u t n e l cc T X Y G N op nx el g1 hu hle hn hE hc ha) (ZhJ he1 (fun _=>Zfz hE T hx) VM al0 st0 ac0)
 ·exact ZhE (Z6E u t n e l cc T X Y G N op nx el ht hu hl hn hE hc ha) (ZRt u t n e l cc T X Y G N op nx el hu hle hn hE hc ha) (ZhJ he1 (fun _=>Zfz hE T ⟨by decide,by decide⟩) VM al0 st0 ac0)
 ·obtain ⟨x,g1,hx⟩:=vx (Zy.1 ha.h2)
  obtain ⟨y,g2,hy⟩:=vx (Zy.1 ha.h3)
  refine ZhE (Z6F u t n e l cc T X Y G N op nx el ht hu hl hn hE hc ha) (ZRu u t n e l cc T X Y G N op nx el g1 g2 hu hle hn hE hc ha) (ZhJ he1 (ZwB fun h _=>Zfz hE T ⟨Z4f op hx.1,h⟩) VM ?_ st0 ac0)
  cases (doI op x y).2.1<;>cases (doI op x y).2.2<;>exact ⟨by decide,by decide⟩
 ·obtain ⟨x,g1,hx⟩:=gx (Zy.1 ha.h4)
  exact ZhE (Z6G u t n e l cc T X Y G N op nx el ht hu hl hn hE hc ha) (ZRv u t n e l cc T X Y G N op nx el g1 hu hle hn hE hc ha) (ZhJ he1 (fun _=>Zfz hE T (ZXy hx hle _ _ _)) VM al0 st0 ac1)
 ·obtain ⟨x,g1,hx⟩:=vx (Zy.1 ha.h2)
  exact ZhE (Z6H u t n e l cc T X Y G N op nx el ht hu hl hn hE hc ha) (ZRw u t n e l cc T X Y G N op nx el g1 hu hle hn hE hc ha)
   (ZhJ he1 (fun _=>ZAA hE rfl (by simp) rfl (envV hE) (ZM0 (envG hE) _ hx) (envA hE) hb hy) VM al0 (st1 ⟨hx.1,hx.2,hb⟩ rfl) ac1)
 ·obtain ⟨x,g1,hx⟩:=vx (Zy.1 ha.h2)
  obtain ⟨d,m,g2,hd,gm,hm⟩:=ax (Zy.1 ha.h4)
  exact ZhE (Z6I u t n e l cc T X Y G N op nx el ht hu hl hn hE hc ha) (ZRx u t n e l cc T X Y G N op nx el g1 gm g2 hu hle hn hE hc ha)
   (ZhJ he1 (ZwB fun h _=>Zfz (Zfz hE X ⟨ZXL hx.1 hm h,h⟩) T (ZXy hd hle _ _ _)) VM (al1' _ (by decide)) st0 ac1)
 ·obtain ⟨x,g1,hx⟩:=vx (Zy.1 ha.h2)
  obtain ⟨y,g3,hy2⟩:=vx (Zy.1 ha.h3)
  obtain ⟨d,m,g2,hd,gm,hm⟩:=ax (Zy.1 ha.h4)
  have hY:0≤Y∧Y<cc.1:=Zy.1 ha.h3
  obtain ⟨y',gy'⟩:=ZL (e.2.1.set X.toNat (mSpan x (0,m - 1))) Y (by rw [List.length_set];omega)
  refine ZhE (Z6J u t n e l cc T X Y G N op nx el ht hu hl hn hE hc ha) (ZRy u t n e l cc T X Y G N op nx el g1 g3 gm g2 gy' hu hle hn hE hc ha)
   (ZhJ he1 (ZwB fun h _=>?_) VM (al1' _ (by decide)) (st1 ⟨hy2.1,hy2.2,hb⟩ rfl) ac1)
  have hs:=ZM0 (envV hE) X.toNat (v:=mSpan x (0,m - 1)) ⟨ZXL hx.1 hm h,h⟩
  have hy':=hs y' (mG0 gy')
  exact ZAA hE (by simp) rfl (by simp) hs (envG hE) (ZM0 (envA hE) _ ⟨ZkJ hd.1 hy'.1,(ZdW (QE.2 (.inr (Zpk hd.2))) hd.2).2⟩) hb hy
 ·refine ZhE (Z6K u t n e l cc T X Y G N op nx el ht hu hl hn hE hc ha) (ZRz u t n e l cc T X Y G N op nx el hu hle hn hE hc ha)
   (ZhJ he1 (ZwB fun h _=>?_) VM (al1 _ (by decide)) st0 ac0)
  have hg:∀ (L:List I) (ar:Bool),(∀ x∈L,isB x=true∧Zd x=false)→∀ x∈gmap l t ar e.2.2.2.2.1 G L,isB x=true∧Zd x=false:=fun L ar hL x hx=>by
   unfold gmap at hx
   rw [List.mem_mapIdx] at hx
   obtain ⟨i,hi,rfl⟩:=hx
   have:=hL _ (List.getElem_mem hi)
   exact ⟨ZkJ this.1 (ZsB hle),(ZdW (QE.2 (.inr (Zpk this.2))) this.2).2⟩
  exact ZAA hE rfl (by simp [gmap]) (by simp [gmap]) (envV hE) (hg _ _ (envG hE)) (hg _ _ (envA hE)) (ZpW _ _ hb).1 (ZpW _ _ hy).1
 ·exact ZhE (Z5Z u t n e l cc T X Y G N op nx el ht hu hl hn hE hc ha) (ZNk u t n e l cc T X Y G N op nx el hu hle hn hE hc ha)
   (ZhJ he1 (bif_ok' fun h=>ZAA hE rfl rfl rfl (envV hE) (envG hE) (envA hE) (ZpX _ _ hb).1 (ZpX _ _ hy).1) VM (al1' _ (by decide)) st0 ac0)
 ·obtain ⟨x,g1,hx⟩:=vx (Zy.1 ha.h2)
  obtain ⟨y,g2,hy⟩:=vx (Zy.1 ha.h3)
  obtain ⟨w,n1⟩:=ZML op
  exact ZhE (Z50 u t n e l cc T X Y G N op nx el ht hu hl hn hE hc ha) (ZNl u t n e l cc T X Y G N op nx el g1 g2 n1 hu hle hn hE hc ha)
   (ZhJ he1 (ZXJ hE hx hy _ _ _) (ZXJ hE hx hy _ _ _) al0 st0 ac0)
 ·exact ZhE (Z51 u t n e l cc T X Y G N op nx el ht hu hl hn hE hc ha) (ZNm u t n e l cc T X Y G N op nx el hu hle hn hE hc ha) (ZhJ he1 (fun _=>hE) VM al0 st0 ac0)
 ·exact ZhE (Z52 u t n e l cc T X Y G N op nx el ht hu hl hn hE hc ha) (ZNn u t n e l cc T X Y G N op nx el hu hle hn hE hc ha) (ZhJ he1 VM VM ⟨by decide,by decide⟩ st0 ac0)
 ·exact ZhE (Z53 u t n e l cc T X Y G N op nx el ht hu hl hn hE hc ha) (ZNo u t n e l cc T X Y G N op nx el hu hle hn hE hc ha) (ZhJ he1 VM VM al0 st0 ac0)
end
end
abbrev YS:=((List En)×Int×Int×Bool×Int×Int×Int×Int)
abbrev Q2:=((List En)×Int×Int×Bool×Int×Int×Int×Int)
def VW (s0:List En) (s6 b0:Int) (b0_1:Bool) (b0_2 b0_3 b0_4 b0_5:Int):Option (((List En)×Int×Int×Bool×Int×Int×Int×Int)⊕((List En)×Int×Int×Bool×Int×Int×Int×Int)):=bif decide (s6<(s0.length:Int)) then bif decide (0≤s6) then Za s0[s6.toNat]? none fun d10=>Za (Jd (d10,(b0,b0_1,b0_2,b0_3,b0_4,b0_5),())) none fun d11=>bif decide (d11<0) then some (.inl (s0,IntKind.i64.wrap (s6+1),b0,b0_1,b0_2,b0_3,b0_4,b0_5)) else some (.inr (s0,s6,b0,b0_1,b0_2,b0_3,b0_4,b0_5)) else none else some (.inr (s0,s6,b0,b0_1,b0_2,b0_3,b0_4,b0_5))
def ZpQ:YS→Option (YS⊕Q2):=fun (a,b,c,d,e,f,g,h)=>VW a b c d e f g h
def YF (x:YS):Option Q2:=Zh ZpQ Zl x
def Zlm (a0:List En) (a1:En):Option (Int×(Bool×Unit)):=Za (YF (a0,0,a1)) none fun d4=>bif decide (d4.2.1<(d4.1.length:Int)) then bif decide (0≤d4.2.1) then Za d4.1[d4.2.1.toNat]? none fun d5=>Za (Jd (d5,d4.2.2,())) none fun d6=>some (d4.2.1,d6==0,PUnit.unit) else none else some (d4.2.1,false,PUnit.unit)
def Je (x:(List En)×(En×Unit)):Option (Int×(Bool×Unit)):=Zlm x.1 x.2.1
abbrev VG:=((List En)×Int×(List En))
abbrev J7:=(List En)
def ZbK (s1:List En) (s5:Int) (b0:List En):Option (((List En)×Int×(List En))⊕(List En)):=bif decide (s5<(s1.length:Int)) then bif decide (0≤s5) then Za s1[s5.toNat]? none fun d5=>bif decide (d5.2.2.2.2.1>d5.2.2.2.2.2) then some (.inl (s1,IntKind.i64.wrap (s5+1),b0)) else bif decide (0≤s5) then Za s1[s5.toNat]? none fun d6=>Za (Je (b0,d6,())) none fun d7=>bif d7.2.1 then bif decide (0≤d7.1) then Za b0[Int.toNat d7.1]? none fun d8=>Za b0[Int.toNat d7.1]? none fun d9=>bif decide (0≤s5) then Za s1[s5.toNat]? none fun d10=>Za (Zz (d9.2.2.2.2,d10.2.2.2.2,())) none fun d11=>bif decide (0≤d7.1) then Za b0[Int.toNat d7.1]? none fun d12=>Za b0[Int.toNat d7.1]? none fun d13=>some (.inl (s1,IntKind.i64.wrap (s5+1),b0.set (Int.toNat d7.1) (d13.1,d13.2.1,d13.2.2.1,d13.2.2.2.1,d11))) else none else none else none else bif decide ((0:Int)≤0∧0≤d7.1∧d7.1≤(b0.length:Int)) then bif decide (((List.length (α:=I) [])+(List.drop (Int.toNat (0:Int)) (List.take (Int.toNat d7.1) b0)).length+1)*48≤lim) then bif decide (0≤s5) then Za s1[s5.toNat]? none fun d8=>bif decide ((([]++List.drop (Int.toNat (0:Int)) (List.take (Int.toNat d7.1) b0)).length+[d8].length+1)*48≤lim) then bif decide (0≤d7.1∧d7.1≤(b0.length:Int)∧(b0.length:Int)≤(b0.length:Int)) then bif decide ((([]++List.drop (Int.toNat (0:Int)) (List.take (Int.toNat d7.1) b0)++[d8]).length+(List.drop (Int.toNat d7.1) (List.take (b0.length:Int).toNat b0)).length+1)*48≤lim) then some (.inl (s1,IntKind.i64.wrap (s5+1),
 []++List.drop (Int.toNat (0:Int)) (List.take (Int.toNat d7.1) b0)++[d8]++List.drop (Int.toNat d7.1) (List.take (b0.length:Int).toNat b0))) else none else none else none else none else none else none else none else none else some (.inr b0)
def Zr5:VG→Option (VG⊕J7):=fun (a,b,c)=>ZbK a b c
def Zhk (x:VG):Option J7:=Zh Zr5 Zl x
def Zcp (a0 a1:List En):Option (List En):=bif decide (((List.length (α:=I) [])+a0.length+1)*48≤lim) then Za (Zhk (a1,0,[]++a0)) none fun d4=>some d4 else none
def Kx (x:((List En)×((List En)×Unit))):Option (List En):=Zcp x.1 x.2.1
def Q9  (s1:(List En)) (i:Nat) (b0:(List En)) (d:En):Option ((List En)⊕J7):=
 bif decide (d.2.2.2.2.1>d.2.2.2.2.2) then
  some (.inl (b0))
 else Za (Je (b0,d,())) (none) fun d7=>
  bif d7.2.1 then
  bif decide (0≤d7.1) then
  Za b0[Int.toNat d7.1]? (none) fun d8=>
  Za b0[Int.toNat d7.1]? (none) fun d9=>
  Za (Zz (d9.2.2.2.2,d.2.2.2.2,())) (none) fun d11=>
  bif decide (0≤d7.1) then
  Za b0[Int.toNat d7.1]? (none) fun d12=>
  Za b0[Int.toNat d7.1]? (none) fun d13=>
  some (.inl (b0.set (Int.toNat d7.1) (d13.1,d13.2.1,d13.2.2.1,d13.2.2.2.1,d11)))
 else none
 else none
 else bif decide ((0:Int)≤0∧0≤d7.1∧d7.1≤(↑b0.length:Int)) then
  bif decide (((List.length (α:=I) [])+(List.drop (Int.toNat (0:Int)) (List.take (Int.toNat d7.1) b0)).length+1)*48≤lim) then
  bif decide ((([]++List.drop (Int.toNat (0:Int)) (List.take (Int.toNat d7.1) b0)).length+[d].length+1)*48≤lim) then
  bif decide (0≤d7.1∧d7.1≤(↑b0.length:Int)∧(↑b0.length:Int)≤(↑b0.length:Int)) then
  bif decide ((([]++List.drop (Int.toNat (0:Int)) (List.take (Int.toNat d7.1) b0)++[d]).length+(List.drop (Int.toNat d7.1) (List.take (↑b0.length:Int).toNat b0)).length+1)*48≤lim) then
  some (.inl ([]++List.drop (Int.toNat (0:Int)) (List.take (Int.toNat d7.1) b0)++[d]++List.drop (Int.toNat d7.1) (List.take (↑b0.length:Int).toNat b0)))
 else none
 else none
 else none
 else none
 else none
def ZlM  (s1:(List En)) (b0:(List En)):Option J7:=
 some b0
abbrev ZGq  (s1:(List En)) (i:Nat) (s:(List En)):VG:=(s1,(i:Int),s)
def Zf4  (s1:(List En)) (s:(List En)):Option J7:=Zp (fun i s d=>Q9  s1 i s d) (fun s=>ZlM  s1 s) 0 s1 s
theorem ZrT  (s1:(List En)) (s:(List En)) (hl:s1.length<9223372036854775807):Zhk (s1,0,s)=Zf4  s1 s:=by
 unfold Zhk Zf4
 refine Zs s1 (ZGq  s1) _ _ ?_ ?_ s (by unfold Zl;omega)
 ·intro i s d hi hd
  have e1:decide ((i:Int)<(s1.length:Int))=true:=dT0 (by omega)
  have e2:decide (0≤(i:Int))=true:=dT0 (by omega)
  have e3:Int.toNat (i:Int)=i:=tN0 i
  have e4:=Zq hi (Nat.le_of_lt hl)
  show ZbK (s1) ((i:Int)) (s)=upd _ (Q9  s1 i s d)
  unfold ZbK Q9
  simp only [e1,e2,e3,e4,hd,cond_true,cond_false,Zb,ZC,ZF,ZD,ZI,ZJ,ZE]
 ·intro s
  have e1:decide ((s1.length:Int)<(s1.length:Int))=false:=dF0 (by omega)
  show ZbK (s1) ((s1.length:Int)) (s)=_
  unfold ZbK ZlM
  rw [e1]
  rfl
def Qd (b0:Int) (b0_1:Bool) (b0_2 b0_3 b0_4 b0_5:Int) (s0:List En) (i:Nat)  (d:En):Option (Unit⊕Q2):=
 Za (Jd (d,(b0,b0_1,b0_2,b0_3,b0_4,b0_5),())) (none) fun d11=>
  bif decide (d11<0) then
  some (.inl ())
 else some (.inr (s0,(i:Int),b0,b0_1,b0_2,b0_3,b0_4,b0_5))
def ZdI (b0:Int) (b0_1:Bool) (b0_2 b0_3 b0_4 b0_5:Int) (s0:List En):Option Q2:=
 some (s0,(s0.length:Int),b0,b0_1,b0_2,b0_3,b0_4,b0_5)
abbrev ZBw (b0:Int) (b0_1:Bool) (b0_2 b0_3 b0_4 b0_5:Int) (s0:List En) (i:Nat) (s:Unit):YS:=(s0,(i:Int),b0,b0_1,b0_2,b0_3,b0_4,b0_5)
def ZpD (b0:Int) (b0_1:Bool) (b0_2 b0_3 b0_4 b0_5:Int) (s0:List En) (s:Unit):Option Q2:=Zp (fun i s d=>Qd b0 b0_1 b0_2 b0_3 b0_4 b0_5 s0 i  d) (fun s=>ZdI b0 b0_1 b0_2 b0_3 b0_4 b0_5 s0 ) 0 s0 s
theorem ZpC (b0:Int) (b0_1:Bool) (b0_2 b0_3 b0_4 b0_5:Int) (s0:List En) (s:Unit) (hl:s0.length<9223372036854775807):YF (s0,0,b0,b0_1,b0_2,b0_3,b0_4,b0_5)=ZpD b0 b0_1 b0_2 b0_3 b0_4 b0_5 s0 s:=by
 unfold YF ZpD
 refine Zs s0 (ZBw b0 b0_1 b0_2 b0_3 b0_4 b0_5 s0) _ _ ?_ ?_ s (by unfold Zl;omega)
 ·intro i s d hi hd
  have e1:decide ((i:Int)<(s0.length:Int))=true:=dT0 (by omega)
  have e2:decide (0≤(i:Int))=true:=dT0 (by omega)
  have e3:Int.toNat (i:Int)=i:=tN0 i
  have e4:=Zq hi (Nat.le_of_lt hl)
  show VW (s0) ((i:Int)) (b0) (b0_1) (b0_2) (b0_3) (b0_4) (b0_5)=upd _ (Qd b0 b0_1 b0_2 b0_3 b0_4 b0_5 s0 i  d)
  unfold VW Qd
  simp only [e1,e2,e3,e4,hd,cond_true,cond_false,Zb,ZC,ZF,ZD,ZI,ZJ,ZE]
 ·intro s
  have e1:decide ((s0.length:Int)<(s0.length:Int))=false:=dF0 (by omega)
  show VW (s0) ((s0.length:Int)) (b0) (b0_1) (b0_2) (b0_3) (b0_4) (b0_5)=_
  unfold VW ZdI
  rw [e1]
  rfl
abbrev Ky:=Int×Bool×Int×Int
def ky (e:En):Ky:=(e.1,e.2.1,e.2.2.1,e.2.2.2.1)
def vl (e:En):I:=e.2.2.2.2
def arrK (b:Bool):Int:=if b=true then 1 else 0
theorem ZWg {a b:Bool}:arrK a=arrK b↔a=b:=by cases a<;>cases b<;>decide
def ltK (a b:Ky):Prop:=a.1<b.1∨a.1=b.1∧(arrK a.2.1<arrK b.2.1∨arrK a.2.1=arrK b.2.1∧(a.2.2.1<b.2.2.1∨a.2.2.1=b.2.2.1∧a.2.2.2<b.2.2.2))
theorem ZI7 (a b:En):ordI a b=cmpI a.1 b.1 (cmpI (arrK a.2.1) (arrK b.2.1) (cmpI a.2.2.1 b.2.2.1 (cmpI a.2.2.2.1 b.2.2.2.1 0))):=rfl
theorem ZtZ {a b:En}:ordI a b<0↔ltK (ky a) (ky b):=by
 rw [ZI7]
 unfold ltK ky
 simp only
 generalize arrK a.2.1=p
 generalize arrK b.2.1=q
 unfold cmpI
 (repeat' split)<;>omega
theorem ZtY {a b:En}:ordI a b=0↔ky a=ky b:=by
 have h:ky a=ky b↔(a.1=b.1∧arrK a.2.1=arrK b.2.1∧a.2.2.1=b.2.2.1∧a.2.2.2.1=b.2.2.2.1):=by
  simp only [ky,Prod.mk.injEq,ZWg]
 rw [h,ZI7]
 generalize arrK a.2.1=p
 generalize arrK b.2.1=q
 unfold cmpI
 (repeat' split)<;>omega
theorem ZtW {a b c:Ky} (h:ltK a b) (k:ltK b c):ltK a c:=by unfold ltK at *;omega
theorem ZXd {a b:Ky} (h:¬ ltK a b) (k:a≠b):ltK b a:=by
 have e:a=b↔(a.1=b.1∧arrK a.2.1=arrK b.2.1∧a.2.2.1=b.2.2.1∧a.2.2.2=b.2.2.2):=by
  obtain ⟨a1,a2,a3,a4⟩:=a
  obtain ⟨b1,b2,b3,b4⟩:=b
  simp only [Prod.mk.injEq,ZWg]
 rw [Ne,e] at k
 unfold ltK at *;omega
def srt (l:List En):Prop:=l.Pairwise fun a b=>ltK (ky a) (ky b)
theorem Z0C:∀ {l:List En},(∀ (i:Nat) (a b:En),l[i]? = some a→l[i+1]? = some b→ordI a b<0)→srt l
 | [],_=>List.Pairwise.nil
 | [a],_=>List.pairwise_singleton _ _
 | a::b::r,h=>by
  have ih:srt (b::r):=Z0C fun i x y hx hy=>h (i+1) x y hx hy
  have ab:ltK (ky a) (ky b):=ZtZ.1 (h 0 a b rfl rfl)
  refine List.pairwise_cons.2 ⟨fun c hc=>?_,ih⟩
  rcases List.mem_cons.1 hc with rfl | hc
  ·exact ab
  ·exact ZtW ab ((List.pairwise_cons.1 ih).1 c hc)
theorem Z18 {l:List En} (h:srt l) (i:Nat) (a b:En) (ha:l[i]? = some a) (hb:l[i+1]? = some b):ordI a b<0:=by
 rw [ZtZ]
 obtain ⟨h1,rfl⟩:=List.getElem?_eq_some_iff.1 ha
 obtain ⟨h2,rfl⟩:=List.getElem?_eq_some_iff.1 hb
 exact List.pairwise_iff_getElem.1 h i (i+1) h1 h2 (by omega)
theorem tabOK.srt {l:List En} (h:tabOK l):srt l:=Z0C h.s
theorem ZSP {l:List En} (he:∀ x∈l,entOK x) (hs:srt l):ZAR l=true:=by
 unfold ZAR
 rw [Zpo]
 intro j d hd
 have e:=he d (mG0 hd)
 unfold Zwz entB
 rw [e.v,e.n,dF0 (show ¬ d.2.2.2.1<0 by have:=e.h;omega),dF0 (show ¬ d.2.2.2.1≥2147483648 by have:=e.h;omega),Nat.zero_add]
 simp only [Bool.not_false,Bool.and_self,Bool.true_and]
 by_cases hj:j>0
 ·rw [dT0 hj,cond_true]
  have hlt:j<l.length:=(List.getElem?_eq_some_iff.1 hd).1
  rw [List.getElem?_eq_getElem (show j - 1<l.length by omega)]
  simp only [Option.elim_some]
  have:=Z18 hs (j - 1) _ d (List.getElem?_eq_getElem (by omega)) (by rw [show j - 1+1=j by omega];exact hd)
  rw [dF0 (by omega)];rfl
 ·rw [dF0 hj];rfl
def setV (d:En) (v:I):En:=(d.1,d.2.1,d.2.2.1,d.2.2.2.1,v)
def pinT (f:I→I→I) (e:En):List En→List En
 | []=>[e]
 | d::r=>if ordI d e<0 then d::pinT f e r else if ordI d e=0 then setV d (f (vl d) (vl e))::r else e::d::r
def posT (e:En):List En→Nat
 | []=>0
 | d::r=>if ordI d e<0 then posT e r+1 else 0
def fndT (e:En):List En→Bool
 | []=>false
 | d::r=>if ordI d e<0 then fndT e r else ordI d e==0
theorem ZIj (e:En):∀ l,posT e l≤l.length
 | []=>Nat.le_refl _
 | d::r=>by unfold posT;have:=ZIj e r;rw [List.length_cons];split<;>omega
theorem ZDu (e:En):∀ (l:List En) (j:Nat) (d:En),j<posT e l→l[j]? = some d→ordI d e<0
 | [],j,d,h,_=>by simp [posT] at h
 | c::r,j,d,h,hd=>by
  unfold posT at h
  split at h
  ·rename_i hc
   cases j with
   | zero=>cases hd;exact hc
   | succ j=>exact ZDu e r j d (by omega) hd
  ·omega
theorem ZIi {e:En}:∀ {l:List En},srt l→∀ (j:Nat) (d:En),posT e l≤j→l[j]? = some d→¬ ordI d e<0
 | c::r,hs,j,d,h,hd=>by
  have k:=List.pairwise_cons.1 hs
  unfold posT at h
  split at h
  ·cases j with
   | zero=>omega
   | succ j=>exact ZIi k.2 j d (by omega) hd
  ·rename_i hc
   cases j with
   | zero=>cases hd;exact hc
   | succ j=>
    intro q
    rw [ZtZ] at q hc
    exact hc (ZtW (k.1 d (mG0 (l:=r) (i:=j) hd)) q)
theorem Ztv (e:En):∀ (l:List En),fndT e l=true→∃ d,l[posT e l]? = some d∧ky d=ky e
 | [],h=>nomatch h
 | d::r,h=>by
  unfold fndT at h
  unfold posT
  split
  ·rename_i hc;rw [if_pos hc] at h;exact Ztv e r h
  ·rename_i hc;rw [if_neg hc] at h;exact ⟨d,rfl,ZtY.1 (beq_iff_eq.1 h)⟩
theorem ZSz (e:En):∀ (l:List En),fndT e l=false→∀ d,l[posT e l]? = some d→¬ ordI d e=0
 | [],h,d,hd=>by simp [posT] at hd
 | c::r,h,d,hd=>by
  unfold fndT at h
  unfold posT at hd
  split at hd
  ·rename_i hc;rw [if_pos hc] at h;exact ZSz e r h d hd
  ·rename_i hc;rw [if_neg hc] at h;cases hd;exact beq_eq_false_iff_ne.1 h
theorem ZI9 (f:I→I→I) (e:En):∀ (l:List En),fndT e l=false→pinT f e l=l.take (posT e l)++e::l.drop (posT e l)
 | [],_=>rfl
 | d::r,h=>by
  unfold fndT at h
  unfold pinT posT
  by_cases hc:ordI d e<0
  ·rw [if_pos hc] at h ⊢
   rw [if_pos hc,ZI9 f e r h];rfl
  ·rw [if_neg hc] at h ⊢
   rw [if_neg hc,if_neg (beq_eq_false_iff_ne.1 h)];rfl
theorem ZJa (f:I→I→I) (e:En):∀ (l:List En) (d:En),fndT e l=true→l[posT e l]? = some d→pinT f e l=l.set (posT e l) (setV d (f (vl d) (vl e)))
 | [],d,h,_=>nomatch h
 | c::r,d,h,hd=>by
  unfold fndT at h
  unfold posT at hd
  unfold pinT posT
  by_cases hc:ordI c e<0
  ·rw [if_pos hc] at h hd ⊢
   rw [if_pos hc,ZJa f e r d h hd];rfl
  ·rw [if_neg hc] at h hd ⊢
   rw [if_neg hc,if_pos (beq_iff_eq.1 h)]
   cases hd;rfl
theorem ZOs {f:I→I→I} {e:En}:∀ {l:List En} {x:En},x∈pinT f e l→x∈l∨x=e∨∃ d∈l,ky d=ky e∧x=setV d (f (vl d) (vl e))
 | [],x,h=>.inr (.inl (List.mem_singleton.1 h))
 | d::r,x,h=>by
  unfold pinT at h
  split at h
  ·rcases List.mem_cons.1 h with rfl | h
   ·exact .inl (List.mem_cons_self ..)
   ·rcases ZOs h with h | h | ⟨c,hc,h⟩
    ·exact .inl (List.mem_cons_of_mem _ h)
    ·exact .inr (.inl h)
    ·exact .inr (.inr ⟨c,List.mem_cons_of_mem _ hc,h⟩)
  ·split at h
   ·rename_i hz
    rcases List.mem_cons.1 h with rfl | h
    ·exact .inr (.inr ⟨d,List.mem_cons_self ..,ZtY.1 hz,rfl⟩)
    ·exact .inl (List.mem_cons_of_mem _ h)
   ·rcases List.mem_cons.1 h with rfl | h
    ·exact .inr (.inl rfl)
    ·exact .inl h
theorem ZXt (f:I→I→I) (e:En):∀ l,(pinT f e l).length≤l.length+1
 | []=>Nat.le_refl _
 | d::r=>by
  unfold pinT
  have:=ZXt f e r
  (repeat' split)<;>simp only [List.length_cons]<;>omega
theorem ZZU (d:En) (v:I):ky (setV d v)=ky d:=rfl
theorem ZXu {f:I→I→I} {e:En}:∀ {l:List En},srt l→srt (pinT f e l)
 | [],_=>List.pairwise_singleton _ _
 | d::r,hs=>by
  have k:=List.pairwise_cons.1 hs
  unfold pinT
  split
  ·rename_i hc
   refine List.pairwise_cons.2 ⟨fun x hx=>?_,ZXu k.2⟩
   rcases ZOs hx with h | rfl | ⟨c,hc',_,rfl⟩
   ·exact k.1 x h
   ·exact ZtZ.1 hc
   ·rw [ZZU];exact k.1 c hc'
  ·split
   ·exact List.pairwise_cons.2 ⟨fun x hx=>k.1 x hx,k.2⟩
   ·rename_i h1 h2
    rw [ZtZ] at h1
    rw [ZtY] at h2
    have hed:=ZXd h1 h2
    refine List.pairwise_cons.2 ⟨fun x hx=>?_,hs⟩
    rcases List.mem_cons.1 hx with rfl | hx
    ·exact hed
    ·exact ZtW hed (k.1 x hx)
def ZJg:List Sh:=[.dat (.int .i64)]
def ZLR:List Con:=[]
def ZMm (a0:Int):Option Bool:=some (a0 !=a0)
def ZyA (x:Int×Unit):Option Bool:=ZMm x.1
def ZuW:=conP true ZJg (.dat .bool) ZyA
theorem ZJX:Zf Tryz.prog 186 ZuW:=Ze (calU ZLR [] 40 1048576 8 186) true (by rfl) (by rfl) (fun x r e=>(Zk _ _ _ _ _ _ _).trans ((show _=ZyA x by kernel_rfl).trans e)) (.inl rfl)
def ZFm:List Sh:=[.dat (.int .i64),.dat (.int .i64)]
def ZIx:List Con:=[⟨186,ZuW,ZJX⟩]
def Zn4 (a0 a1:Int):Option Int:=bif a0 !=a0 then bif a1 !=a1 then some 0 else some (-1) else bif a1 !=a1 then some 1 else bif decide (a0<a1) then some (-1) else bif decide (a0>a1) then some 1 else some 0
def ZaT (x:Int×(Int×Unit)):Option Int:=Zn4 x.1 x.2.1
def Zrz:=conP true ZFm (.dat (.int .i64)) ZaT
theorem ZGw:Zf Tryz.prog 205 Zrz:=Ze (calU ZIx [] 40 1048576 8 205) true (by rfl) (by rfl) (fun x r e=>(Zk _ _ _ _ _ _ _).trans ((show _=ZaT x by kernel_rfl).trans e)) (.inl rfl)
def ZR7:List Sh:=[.dat .bool]
def ZV7:List Con:=[]
def ZMs (a0:Bool):Option Int:=bif a0 then some 1 else some 0
def Zp8 (x:Bool×Unit):Option Int:=ZMs x.1
def ZHl:=conP true ZR7 (.dat (.int .i64)) Zp8
theorem ZTO:Zf Tryz.prog 206 ZHl:=Ze (calU ZV7 [] 40 1048576 8 206) true (by rfl) (by rfl) (fun x r e=>(Zk _ _ _ _ _ _ _).trans ((show _=Zp8 x by kernel_rfl).trans e)) (.inl rfl)
def ZNB:List Sh:=[.dat (.sl (.int .i64))]
def ZrH:Nat→List Nat:=fun c=>bif c.beq 0 then [3,6,7,8] else [2,3]
def ZE9:List Con:=[]
def ZeL:StS:=⟨[(3,.int .i64),(6,.sl (.int .i64)),(7,.int .i64),(8,.int .i64)],[],0⟩
def H2:StS:=⟨[(2,.undef),(3,.int .i64)],[],0⟩
def H3:StS:=⟨[(2,.int .i64),(3,.int .i64)],[],0⟩
abbrev YG:=(Int×(List Int)×Int×Int)
def ZAB:StD ZeL→YG:=fun ((a,b,c,d,_),_)=>(a,b,c,d)
def ZB2:YG→StD ZeL:=fun (a,b,c,d)=>((a,b,c,d,()),())
abbrev QT:=Int
def ZUi (d:StD H2):QT:=(d.1.2.1)
def ZgJ (x:QT):StD H2:=(((),x,()),())
abbrev QU:=(Int×Int)
def ZUj (d:StD H3):QU:=(d.1.1,d.1.2.1)
def ZgK (x:QU):StD H3:=((x.1,x.2,()),())
def VO (s3:Int) (s6:List Int) (s7 s8:Int):Option ((Int×(List Int)×Int×Int)⊕(Int⊕(Int×Int))):=bif decide (s8<s7) then bif decide (0≤s8) then Za s6[s8.toNat]? none fun d6=>bif d6 !=s3 then some (.inr (.inr (d6,s3))) else some (.inl (s3,s6,s7,IntKind.i64.wrap (s8+1))) else none else some (.inr (.inl s3))
def ZpI:YG→Option (YG⊕(QT⊕QU)):=fun (a,b,c,d)=>VO a b c d
def WJ (x:YG):Option (QT⊕QU):=Zh ZpI Zl x
def Zt1:Nat→Tm→Prog (Nat×Tm):=(varP 0 (fun T h=>(rdS ZeL T h).map ZAB) WJ (fun y=>.alt y (altE 2 H2 ZgJ) (altE 1 H3 ZgK)) (fun _ _=>.fail))
def ZFW:Lpc:=⟨204,0,18,(fun base T=>.norm base (ZrH 0) T (Zt1 base)),by kernel_rfl,by kernel_rfl,(loopU ZE9 [] 40 1048576 8 (keep:=ZrH) (q:=Zt1) (by kernel_rfl) (Zv (s:=ZeL) (un:=ZB2) (by rfl) (fun _=>rfl) (ZW (Zn (s:=H2) (un:=ZgJ) (flat:=ZUi) (by rfl) (fun _=>rfl)) (Zn (s:=H3) (un:=ZgK) (flat:=ZUj) (by rfl) (fun _=>rfl))) (step:=ZpI) (fun _=>by kernel_rfl) (fun _ _ e=>⟨_,e⟩) (ZV (Zm 2 H2 ZgJ) (Zm 1 H3 ZgK)) (ZB.fail _ _)))⟩
def ZwS (a0:List Int):Option Int:=Za (WJ (0,a0,(a0.length:Int),0)) none fun d3=>Sum.elim (fun e4=>some e4) (fun e4=>some e4.1) d3
def Zp0 (x:(List Int)×Unit):Option Int:=ZwS x.1
def ZAm:=conP true ZNB (.dat (.int .i64)) Zp0
theorem ZOF:Zf Tryz.prog 204 ZAm:=Ze (calU ZE9 [ZFW] 40 1048576 8 204) true (by rfl) (by rfl) (fun x r e=>(Zk _ _ _ _ _ _ _).trans ((show _=Zp0 x by kernel_rfl).trans e)) (.inl rfl)
def ZQH:List Sh:=[.dat tEn,.dat tEn]
def ZT4:List Con:=[⟨205,Zrz,ZGw⟩,⟨206,ZHl,ZTO⟩,⟨204,ZAm,ZOF⟩]
def ZzS (a0 a1:En):Option Int:=Za (ZaT (a0.1,a1.1,())) none fun d3=>Za (Zp8 (a0.2.1,())) none fun d4=>Za (Zp8 (a1.2.1,())) none fun d5=>Za (ZaT (a0.2.2.1,a1.2.2.1,())) none fun d6=>Za (ZaT (a0.2.2.2.1,a1.2.2.2.1,())) none fun d7=>Za (Zp0 ([d3,IntKind.i64.wrap (d4 - d5),d6,d7],())) none fun d8=>some d8
def Zly (x:En×(En×Unit)):Option Int:=ZzS x.1 x.2.1
def ZEV:=conP true ZQH (.dat (.int .i64)) Zly
theorem ZQ3:Zf Tryz.prog 188 ZEV:=Ze (calU ZT4 [] 40 1048576 8 188) true (by rfl) (by rfl) (fun x r e=>(Zk _ _ _ _ _ _ _).trans ((show _=Zly x by kernel_rfl).trans e)) (.inl rfl)
abbrev Zzm:Type:=((List En)×Int×Int×Int×Int×Bool×Int×Int×Int×Int×Int×Bool×Int×Int×Int×Int)
abbrev Zzn:Type:=((List En)×Int×Int×Int×Bool×Int×Int×Int×Int×Int×Bool×Int×Int×Int×Int)
def ZR6:List Sh:=[.dat (.sl tEn),.dat tEn]
def Zvh:Nat→List Nat:=fun c=>bif c.beq 0 then [0,2,4,8,9,10] else [0,2,4,8,9]
def ZKS:List Con:=[⟨188,ZEV,ZQ3⟩]
def Zh9:StS:=⟨[(0,.sl tEn),(2,.clo 188 [] []),(4,.ptr 1 0),(8,.int .i64),(9,.int .i64),(10,.int .i64)],[(0,.box [.int .i64,.bool,.int .i64,.int .i64,.int .i64,.int .i64]),(1,.box [.int .i64,.bool,.int .i64,.int .i64,.int .i64,.int .i64])],2⟩
def ZaS:StS:=⟨[(0,.sl tEn),(2,.clo 188 [] []),(4,.ptr 1 0),(8,.int .i64),(9,.int .i64)],[(0,.box [.int .i64,.bool,.int .i64,.int .i64,.int .i64,.int .i64]),(1,.box [.int .i64,.bool,.int .i64,.int .i64,.int .i64,.int .i64])],2⟩
abbrev ZcT:=Zzm
def ZFV:StD Zh9→ZcT:=fun ((a,(_,_),_,b,c,d,_),((e,f,g,h,i,j,_),(k,l,m,n,o,p,_),_))=>(a,b,c,d,e,f,g,h,i,j,k,l,m,n,o,p)
def ZG1:ZcT→StD Zh9:=fun (a,b,c,d,e,f,g,h,i,j,k,l,m,n,o,p)=>((a,((),()),(),b,c,d,()),((e,f,g,h,i,j,()),(k,l,m,n,o,p,()),()))
abbrev Zer:=Zzn
def ZW0:StD ZaS→Zer:=fun ((a,(_,_),_,b,c,_),((d,e,f,g,h,i,_),(j,k,l,m,n,o,_),_))=>(a,b,c,d,e,f,g,h,i,j,k,l,m,n,o)
def Zke:Zer→StD ZaS:=fun (a,b,c,d,e,f,g,h,i,j,k,l,m,n,o)=>((a,((),()),(),b,c,()),((d,e,f,g,h,i,()),(j,k,l,m,n,o,()),()))
def ZrX (s0:List En) (s8 s9 s10 b0:Int) (b0_1:Bool) (b0_2 b0_3 b0_4 b0_5 b1:Int) (b1_1:Bool) (b1_2 b1_3 b1_4 b1_5:Int):Option (Zzm⊕Zzn):=bif decide (s9<s10) then bif decide (0≤IntKind.i64.wrap ((IntKind.u64.wrap (IntKind.i64.wrap (s9+s10))).fdiv (2 ^ Min.min (Int.toNat 1) IntKind.u64.bits))) then Za s0[(IntKind.i64.wrap ((IntKind.u64.wrap (IntKind.i64.wrap (s9+s10))).fdiv (2 ^ Min.min (Int.toNat 1) IntKind.u64.bits))).toNat]? none fun d18=>Za (Zly (d18,(b1,b1_1,b1_2,b1_3,b1_4,b1_5),())) none fun d19=>bif decide (d19<0) then some (.inl (s0,s8,IntKind.i64.wrap (IntKind.i64.wrap ((IntKind.u64.wrap (IntKind.i64.wrap (s9+s10))).fdiv (2 ^ Min.min (Int.toNat 1) IntKind.u64.bits))+1),s10,b0,b0_1,b0_2,b0_3,b0_4,b0_5,b1,b1_1,b1_2,b1_3,b1_4,b1_5)) else some (.inl (s0,s8,s9,IntKind.i64.wrap ((IntKind.u64.wrap (IntKind.i64.wrap (s9+s10))).fdiv (2 ^ Min.min (Int.toNat 1) IntKind.u64.bits)),b0,b0_1,b0_2,b0_3,b0_4,b0_5,b1,b1_1,b1_2,b1_3,b1_4,b1_5)) else none else some (.inr (s0,s8,s9,b0,b0_1,b0_2,b0_3,b0_4,b0_5,b1,b1_1,b1_2,b1_3,b1_4,b1_5))
def Zgz:ZcT→Option (ZcT⊕Zer):=fun (a,b,c,d,e,f,g,h,i,j,k,l,m,n,o,p)=>ZrX a b c d e f g h i j k l m n o p
def ZmL (x:ZcT):Option Zer:=Zh Zgz Zl x
def ZxG:Nat→Tm→Prog (Nat×Tm):=(varP 1 (fun T h=>(rdS Zh9 T h).map ZFV) ZmL (altE 2 ZaS Zke) (fun _ _=>.fail))
def ZJK:Lpc:=⟨187,0,49,(fun base T=>.norm base (Zvh 0) T (ZxG base)),by kernel_rfl,by kernel_rfl,(loopU ZKS [] 40 1048576 8 (keep:=Zvh) (q:=ZxG) (by kernel_rfl) (Zv (s:=Zh9) (un:=ZG1) (by rfl) (fun _=>rfl) (Zn (s:=ZaS) (un:=Zke) (flat:=ZW0) (by rfl) (fun _=>rfl)) (step:=Zgz) (fun _=>by kernel_rfl) (fun _ _ e=>⟨_,e⟩) (Zm 2 ZaS Zke) (ZB.fail _ _)))⟩
def ZC8 (a0:List En) (a1:En):Option (Int×(Bool×Unit)):=Za (ZmL (a0,(a0.length:Int),0,(a0.length:Int),a1.1,a1.2.1,a1.2.2.1,a1.2.2.2.1,a1.2.2.2.2.1,a1.2.2.2.2.2,a1)) none fun d4=>bif decide (d4.2.2.1<d4.2.1) then bif decide (0≤d4.2.2.1) then Za d4.1[d4.2.2.1.toNat]? none fun d5=>Za (Zly (d5,d4.2.2.2.2.2.2.2.2.2,())) none fun d6=>some (d4.2.2.1,d6==0,PUnit.unit) else none else some (d4.2.2.1,false,PUnit.unit)
def Zhc (x:(List En)×(En×Unit)):Option (Int×(Bool×Unit)):=ZC8 x.1 x.2.1
def ZwP:=conP false ZR6 (.tup [.dat (.int .i64),.dat .bool]) Zhc
theorem ZIw:Zf Tryz.prog 154 ZwP:=Ze (calU ZKS [ZJK] 40 1048576 8 154) false (by rfl) (by rfl) (fun x r e=>(Zk _ _ _ _ _ _ _).trans ((show _=Zhc x by kernel_rfl).trans e)) (.inr fun _=>rfl)
def ZdC (s3:Int) (s6:List Int) (i:Nat)  (d:Int):Option (Unit⊕(QT⊕QU)):=
 bif d !=s3 then
  some (.inr (.inr (d,s3)))
 else some (.inl ())
def Zjm (s3:Int) (s6:List Int):Option (QT⊕QU):=
 some (.inl s3)
abbrev ZBp (s3:Int) (s6:List Int) (i:Nat) (s:Unit):YG:=(s3,s6,(s6.length:Int),(i:Int))
def ZjA (s3:Int) (s6:List Int) (s:Unit):Option (QT⊕QU):=Zp (fun i s d=>ZdC s3 s6 i  d) (fun s=>Zjm s3 s6 ) 0 s6 s
theorem ZBd (s3:Int) (s6:List Int) (s:Unit) (hl:s6.length<9223372036854775807):WJ (s3,s6,(s6.length:Int),0)=ZjA s3 s6 s:=by
 unfold WJ ZjA
 refine Zs s6 (ZBp s3 s6) _ _ ?_ ?_ s (by unfold Zl;omega)
 ·intro i s d hi hd
  have e1:decide ((i:Int)<(s6.length:Int))=true:=dT0 (by omega)
  have e2:decide (0≤(i:Int))=true:=dT0 (by omega)
  have e3:Int.toNat (i:Int)=i:=tN0 i
  have e4:=Zq hi (Nat.le_of_lt hl)
  show VO (s3) (s6) ((s6.length:Int)) ((i:Int))=upd _ (ZdC s3 s6 i  d)
  unfold VO ZdC
  simp only [e1,e2,e3,e4,hd,cond_true,cond_false,Zb,ZC,ZF,ZD,ZI,ZJ,ZE]
 ·intro s
  have e1:decide ((s6.length:Int)<(s6.length:Int))=false:=dF0 (by omega)
  show VO (s3) (s6) ((s6.length:Int)) ((s6.length:Int))=_
  unfold VO Zjm
  rw [e1]
  rfl
def ZAz:Ctx:={ tab:=tab,spec:=fun _=>none,inl:=inl,lps:=fun _ _=>none,fuel:=40 }
def Zih:List AV→Prog AV:=ZMb 48 tEn
theorem ZoH:Zf Tryz.prog 106 Zih:=
 ZKf (cx:=ZAz) (cal:=fun _ _=>.fail) (i:=⟨(.sl (.st (.pair (.int .i64) (.pair .bool (.pair (.int .i64) (.pair (.int .i64) (.st (.pair (.int .i64) (.int .i64))))))))),24,83,[],false⟩) (ie:=⟨(.st (.pair (.int .i64) (.pair .bool (.pair (.int .i64) (.pair (.int .i64) (.st (.pair (.int .i64) (.int .i64)))))))),48,0,[(0,1),(1,1),(2,1),(3,1),(4,2)],true⟩) (ZsT ZxW) Tryz.func106 (ZSK 106 Tryz.f106 rfl).2 (t:=33) (tb:=4) (s0 := "slices.go:355") (s1 := "slices.go:357") (s2 := "slices.go:358") (s3 := "slices.go:362") (by kernel_rfl) (by kernel_rfl) (by kernel_rfl) rfl rfl rfl rfl
section
section
variable [RT] {P:Program}
theorem Z3f (v:Value):oneV v=v.oneCell':=by cases v<;>rfl
theorem Zy7 (w:World) (dT sT ty elem:TypeId) (k g o dLen dCap:Nat) (a:Addr) (sLen sCap:Nat) (cur:Array Value) (t:TypeId) (cs:List Value)
  (hu:P.underlying dT=some (.slice elem)) (hs:(P.info? elem).map (·.size)=some k)
  (hg:w.heap[g]? = some (.cells cur t (0,0))) (hn:cs.length=Nat.min sLen dLen*k)
  (hsrc:∀ j v,cs[j]? = some v→w.cell? (a.add j)=some v) (hfit:o+cs.length≤cur.size) (h1:∀ v∈cs,oneV v=true) :
  (Builtin.copy_ #[dT,sT] ty #[.slice (some ⟨g,o,none⟩) dLen dCap,.slice (some a) sLen sCap]).run P w =
   .ok (goInt (Nat.min sLen dLen)) (w.setRow g (cur.toList.take o++cs++cur.toList.drop (o+cs.length)).toArray):=by
 have hl:=run_loadCells_list (P:=P) w a cs hsrc
 have hst:=run_storeCells_at P g o t cs 0 cur w hg (by simpa using hfit) (fun v hv=>by rw [← Z3f];exact h1 v hv)
 rw [hn] at hl
 cases hq:P.info? elem with
 | none=>simp [hq] at hs
 | some i=>
  have hi:i.size=k:=by simpa [hq] using hs
  simp [Builtin.copy_,run_underlying hu,Builtin.lenOf,Builtin.firstCells,sizeOf,typeInfo,hq,hi,hl,hst]
end
end
section
open Go.Proofs Go.Shelf Go.RowKit Go.Lib
structure LayI (P:Program):Prop where
 mixed:P.follows .mixedOrders=true
 f155:P.funcs[155]? = some Tryz.f155
 f189:P.funcs[189]? = some Tryz.f189
 t3:P.underlying 3=some (TypeDesc.int IntKind.i64)
 a3:∀ w,(isAgg 3).run P w=.ok false w
 z3:∀ w,(Go.sizeOf 3).run P w=.ok 1 w
 t4:P.underlying 4=some (TypeDesc.bool)
 a4:∀ w,(isAgg 4).run P w=.ok false w
 z4:∀ w,(Go.sizeOf 4).run P w=.ok 1 w
 z83:∀ w,(Go.sizeOf 83).run P w=.ok 6 w
 t33:P.underlying 33=some (TypeDesc.slice 83)
 a33:∀ w,(isAgg 33).run P w=.ok false w
 z33:∀ w,(Go.sizeOf 33).run P w=.ok 1 w
 i83:∃ i z,P.info? 83=some i∧i.zero=some z∧i.size=6∧i.bytes=48∧z.cells.size=6
theorem ZCq:Tryz.f155.ntmps=95:=by kernel_rfl
variable {P:Program}
set_option maxHeartbeats 4000000 in
set_option maxRecDepth 100000 in
theorem ZZR (L:LayI P) (b n c i vb vc:Nat) (vs news:List Value) (vx:Array Value) (et et':TypeId) (w:World) (hi:i<n) (hroom:n+1≤c) (hbig:(n+1)*48≤140737488355328) (hvb:vb≠b)
  (hw:w.heap[b]? = some (.cells vs.toArray et (0,0))) (hvl:vs.length=c*6) (hv:w.heap[vb]? = some (.cells vx et' (0,0))) (hnl:news.length=6) (hnv:∀ (j:Nat) (v:Value),news[j]? = some v→vx[j]? = some v)
  (h1c:∀ v∈vs.take (n*6),oneV v=true) (h1v:∀ v∈news,oneV v=true) :
  Calls P 155 #[.slice (some ⟨b,0,none⟩) n c,.int .i64 i,.slice (some ⟨vb,0,none⟩) 1 vc] w fun e w'=>
   e=.returned (.slice (some ⟨b,0,none⟩) (n+1) c)∧w'=w.drew.setRow b (vs.take (i*6)++news++(vs.drop (i*6)).take ((n - i)*6)++vs.drop ((n+1)*6)).toArray:=by
 have t3:=L.t3;have a3:=L.a3;have z3:=L.z3;have t4:=L.t4;have a4:=L.a4;have z4:=L.z4;have z83:=L.z83;have t33:=L.t33;have a33:=L.a33;have z33:=L.z33
 have u3:=run_underlying L.t3;have u4:=run_underlying L.t4;have u33:=run_underlying L.t33
 have mixed:=L.mixed
 have hz2:¬ ((i:Int)=(n:Int)):=by omega
 have hhead:World.shape? w vb=some (et',vx.size):=by simp [World.shape?,hv]
 have hheadb:World.shape? w b=some (et,vs.toArray.size):=by simp [World.shape?,hw]
 have hov:∀ lb cb,(callFunc 189 #[.slice (some ⟨vb,0,none⟩) 1 vc,.slice (some ⟨b,(i+1)*6,none⟩) lb cb]).run P w=.ok (.value (.bool false)) w:=fun lb cb=>by
  rw [run_callFunc_extern L.f189 (by kernel_rfl) (by kernel_rfl) (by kernel_rfl) (e:=Extern.SlicesOverlaps.overlaps #[33,33] #[4]) (by kernel_rfl),
   Lib.run_overlaps_apart w 33 4 83 L.t33 6 L.z83 ⟨vb,0,none⟩ ⟨b,(i+1)*6,none⟩ 1 vc lb cb hvb et' et vx.size vs.toArray.size hhead hheadb (by simp only [List.size_toArray];omega) (by simp [World.frozen?,hv]) (by simp [World.frozen?,hv])]
  rfl
 have hw1:IntKind.i64.wrap ((i:Int)+1)=(i:Int)+1:=by rw [IntKind.wrap_i64];omega
 have hb1:(0:Int)≤(i:Int)+1:=by omega
 have hb5:(i:Int)+1≤(n:Int)+1:=by omega
 have hin:i≤n:=by omega
 have htn:((i:Int)+1).toNat=i+1:=by omega
 have hb2:¬ (c=i+1):=by omega
 have hb3:(i:Int)≤(n:Int)+1:=by omega
 have hb4:¬ (c=i):=by omega
 obtain ⟨i0,z0,hi0,-,hsz0,-,-⟩:=L.i83
 have hsz:(P.info? 83).map (·.size)=some 6:=by rw [hi0];simp [hsz0]
 have e1:(i+1)*6=i*6+6:=by omega
 have htl:((vs.drop (i*6)).take ((n - i)*6)).length=(n - i)*6:=by rw [List.length_take,List.length_drop];omega
 have hcell:∀ (W:World) (b':Nat) (cs:Array Value) (t':TypeId),W.heap[b']? = some (.cells cs t' (0,0))→∀ o,W.cell? ⟨b',o,none⟩=cs[o]?:=fun W b' cs t' h o=>Zse h o
 have hwd:w.drew.heap[b]? = some (.cells vs.toArray et (0,0)):=hw
 have hcp1:∀ ty dc sc,(Builtin.copy_ #[33,33] ty #[.slice (some ⟨b,(i+1)*6,none⟩) (n - i) dc,.slice (some ⟨b,i*6,none⟩) (n+1 - i) sc]).run P w.drew =
   .ok (goInt ((n - i:Nat):Int)) (w.drew.setRow b (vs.take ((i+1)*6)++(vs.drop (i*6)).take ((n - i)*6)++vs.drop ((i+1)*6+(n - i)*6)).toArray):=fun ty dc sc=>by
  have h:=Zy7 w.drew 33 33 ty 83 6 b ((i+1)*6) (n - i) dc ⟨b,i*6,none⟩ (n+1 - i) sc vs.toArray et ((vs.drop (i*6)).take ((n - i)*6)) L.t33 hsz hwd
   (by rw [htl];simp only [Nat.min_def];split<;>omega)
   (fun j v hj=>by
    rw [List.getElem?_take] at hj
    split at hj
    ·rw [Addr.add_lit,hcell _ _ _ _ hwd,List.getElem?_toArray];rwa [List.getElem?_drop] at hj
    ·cases hj)
   (by rw [htl];simp only [List.size_toArray];omega) (fun v hv=>h1c v (by rw [Nat.sub_mul,← List.drop_take] at hv;exact List.mem_of_mem_drop hv))
  have hmin:Nat.min (n+1 - i) (n - i)=n - i:=by simp only [Nat.min_def];split<;>omega
  rw [hmin,htl] at h
  exact h
 obtain ⟨C1,hC1⟩:∃ C1:List Value,C1=vs.take ((i+1)*6)++(vs.drop (i*6)).take ((n - i)*6)++vs.drop ((i+1)*6+(n - i)*6):=⟨_,rfl⟩
 have hC1l:C1.length=c*6:=by
  rw [hC1];simp only [List.length_append,htl,List.length_take,List.length_drop];omega
 have hfin:C1.take (i*6)++news++C1.drop (i*6+6)=vs.take (i*6)++news++(vs.drop (i*6)).take ((n - i)*6)++vs.drop ((n+1)*6):=by
  have h1:C1.take (i*6)=vs.take (i*6):=by
   rw [hC1,List.append_assoc,List.take_append_of_le_length (by rw [List.length_take];omega),List.take_take,Nat.min_eq_left (by omega)]
  have h2:C1.drop (i*6+6)=(vs.drop (i*6)).take ((n - i)*6)++vs.drop ((n+1)*6):=by
   rw [hC1,List.append_assoc,List.drop_append_of_le_length (by rw [List.length_take];omega),List.drop_eq_nil_of_le (by rw [List.length_take];omega),List.nil_append,show (i+1)*6+(n - i)*6=(n+1)*6 by omega]
  rw [h1,h2,← List.append_assoc]
 rw [← hC1] at hcp1
 have hcp2:∀ (W:World),W.heap[b]? = some (.cells C1.toArray et (0,0))→W.heap[vb]? = some (.cells vx et' (0,0))→∀ ty dc,(Builtin.copy_ #[33,33] ty #[.slice (some ⟨b,i*6,none⟩) (n+1 - i) dc,.slice (some ⟨vb,0,none⟩) 1 vc]).run P W =
   .ok (goInt 1) (W.setRow b (C1.take (i*6)++news++C1.drop (i*6+6)).toArray):=fun W hWb hWv ty dc=>by
  have h:=Zy7 W 33 33 ty 83 6 b (i*6) (n+1 - i) dc ⟨vb,0,none⟩ 1 vc C1.toArray et news L.t33 hsz hWb
   (by rw [hnl];simp only [Nat.min_def];split<;>omega)
   (fun j v hj=>by rw [Addr.add_lit,hcell _ _ _ _ hWv,Nat.zero_add];exact hnv j v hj)
   (by rw [hnl];simp only [List.size_toArray];omega) h1v
  have hmin:Nat.min 1 (n+1 - i)=1:=by simp only [Nat.min_def];split<;>omega
  rw [hmin,hnl] at h
  exact h
 have hWb:(w.drew.setRow b C1.toArray).heap[b]? = some (.cells C1.toArray et (0,0)):=setRow_heap w.drew b _ C1.toArray et _ hwd
 have hWv:(w.drew.setRow b C1.toArray).heap[vb]? = some (.cells vx et' (0,0)):=by
  simp only [World.setRow,Array.getElem?_modify]
  rw [if_neg (fun e=>hvb e.symm)];exact hv
 rw [← hfin]
 clear e1 hC1 hfin hC1l htl hcell hwd hhead hheadb
 go_enter L.f155,ZCq
 go_wp2_with (simp only [hov])
 go_region_law_o (refine step_copy_runI rfl _ _ 33 33 rfl _ _ (by simp [Act.eval,Act.put]) (by simp [Act.eval,Act.put]) (hcp1 _ _ _) ?_)
 go_wp2_with (at_builtin;refine wpList_copy_runI _ rfl _ _ 33 33 rfl _ _ rfl rfl (hcp2 _ hWb hWv _ _) ?_)
 go_ret
 refine ⟨rfl,?_⟩
 rw [setRow_setRow,List.append_assoc]
set_option maxHeartbeats 4000000 in
set_option maxRecDepth 100000 in
theorem ZOe (L:LayI P) (base:Option Addr) (n c vb vc:Nat) (w w':World) (u:Value)
  (hrun:∀ ty,(Builtin.append_ #[33,33] ty #[.slice base n c,.slice (some ⟨vb,0,none⟩) 1 vc]).run P w=.ok u w') :
  Calls P 155 #[.slice base n c,.int .i64 n,.slice (some ⟨vb,0,none⟩) 1 vc] w fun e w''=>e=.returned u∧w''=w':=by
 have t3:=L.t3;have a3:=L.a3;have z3:=L.z3;have t4:=L.t4;have a4:=L.a4;have z4:=L.z4;have z83:=L.z83;have t33:=L.t33;have a33:=L.a33;have z33:=L.z33
 have u3:=run_underlying L.t3;have u4:=run_underlying L.t4;have u33:=run_underlying L.t33
 have mixed:=L.mixed
 go_enter L.f155,ZCq
 cases base with
 | none=>
  go_wp2_with (at_builtin;refine Lib.wpList_append_run _ rfl _ _ _ _ rfl _ _ rfl rfl _ _ (hrun _) ?_)
  all_goals (go_ret;exact ⟨rfl,rfl⟩)
 | some a=>
  obtain ⟨ab,ao,asp⟩:=a
  go_wp2_with (at_builtin;refine Lib.wpList_append_run _ rfl _ _ _ _ rfl _ _ rfl rfl _ _ (hrun _) ?_)
  all_goals (go_ret;exact ⟨rfl,rfl⟩)
set_option maxHeartbeats 4000000 in
set_option maxRecDepth 100000 in
theorem Z1w (L:LayI P) (b n c i vb vc:Nat) (vs news:List Value) (vx:Array Value) (et et':TypeId) (w:World) (hi:i<n) (hnc:n≤c) (hroom:c<n+1) (hbig:(n+1)*48≤140737488355328)
  (hw:w.heap[b]? = some (.cells vs.toArray et (0,0))) (hvl:vs.length=c*6) (hv:w.heap[vb]? = some (.cells vx et' (0,0))) (hnl:news.length=6) (hnv:∀ (j:Nat) (v:Value),news[j]? = some v→vx[j]? = some v)
  (h1c:∀ v∈vs.take (n*6),oneV v=true) (h1v:∀ v∈news,oneV v=true) :
  Calls P 155 #[.slice (some ⟨b,0,none⟩) n c,.int .i64 i,.slice (some ⟨vb,0,none⟩) 1 vc] w fun e w'=>
   ∃ (G:Nat) (rest:List Value),n+1≤G∧rest.length=(G - (n+1))*6∧e=.returned (.slice (some ⟨w.heap.size,0,none⟩) (n+1) G) ∧
    w'.heap=(w.heap.push (.cells (vs.take (i*6)++news++(vs.drop (i*6)).take ((n - i)*6)++rest).toArray 83))∧w'.os=w.os∧w'.tape=w.tape∧w'.output=w.output:=by
 have t3:=L.t3;have a3:=L.a3;have z3:=L.z3;have t4:=L.t4;have a4:=L.a4;have z4:=L.z4;have z83:=L.z83;have t33:=L.t33;have a33:=L.a33;have z33:=L.z33
 have u3:=run_underlying L.t3;have u4:=run_underlying L.t4;have u33:=run_underlying L.t33
 have mixed:=L.mixed
 obtain ⟨i0,z0,hi0,hz0,hsz0,hby0,hzc⟩:=L.i83
 have hz2:¬ ((i:Int)=(n:Int)):=by omega
 have hz3:(c:Int)<(n:Int)+1:=by omega
 have hsz:(P.info? 83).map (·.size)=some 6:=by rw [hi0];simp [hsz0]
 have hbw:b<w.heap.size:=(Array.getElem?_eq_some_iff.1 hw).1
 have hvw:vb<w.heap.size:=(Array.getElem?_eq_some_iff.1 hv).1
 have hkk:(n:Int)+1 - (i:Int)=((n+1 - i:Nat):Int):=by omega
 have hik:i+(n+1 - i)=n+1:=by omega
 have hold:(Builtin.firstCells i0.size i (.slice (some ⟨b,0,none⟩) i c)).run P w.drew=.ok (vs.take (i*6)).toArray w.drew:=by
  rw [hsz0]
  exact Go.Proofs.YtbdcblpjemmipaaGreat.Ex.run_firstCells (P:=P) (w:=w.drew) hw (vs.take (i*6)) (by rw [List.length_take];omega) (fun k hk=>by
   rw [List.length_take] at hk
   rw [Nat.zero_add,List.getElem?_toArray,List.getElem?_take_of_lt (by omega)])
 obtain ⟨G,hG⟩:∃ G,G=grownCap w (n+1) c 83:=⟨_,rfl⟩
 obtain ⟨ROW,hROW⟩:∃ ROW:List Value,ROW=vs.take (i*6)++(Builtin.zeroCells z0.cells (n+1 - i)).toList++(Builtin.zeroCells z0.cells (G - (n+1))).toList:=⟨_,rfl⟩
 have hrz:∀ ty,(Builtin.append_ #[33,3] ty #[.slice (some ⟨b,0,none⟩) i c,.int .i64 ((n:Int)+1 - (i:Int))]).run P w =
   .ok (.slice (some ⟨w.heap.size,0,none⟩) (n+1) G) (w.drew.alloc (.cells ROW.toArray 83)):=fun ty=>by
  have h:=Lib.run_append_grow_zeros w 33 3 ty 83 i0 _ .i64 .i64 L.t33 L.t3 hi0 hz0 (some ⟨b,0,none⟩) i c (vs.take (i*6)) hold (n+1 - i) (by omega) (by omega) (by omega) (by omega) (by rw [hby0];omega) (by rw [hby0,hik];exact growslice_fits hroom hbig)
  rw [hik] at h
  rw [hkk,h,hROW,hG]
  congr 4
  apply Array.ext'
  simp
 have hGn:n+1≤G:=by rw [hG];exact grownCap_ge w _ _ _
 have hzl:∀ k,(Builtin.zeroCells z0.cells k).toList.length=k*6:=fun k=>by rw [Array.length_toList,size_zeroCells,hzc]
 have htk:(vs.take (i*6)).length=i*6:=by rw [List.length_take];omega
 have hRl:ROW.length=G*6:=by rw [hROW];simp only [List.length_append,hzl,htk];omega
 have hRt:ROW.take (i*6)=vs.take (i*6):=by rw [hROW,List.append_assoc,List.take_append_of_le_length (by omega),List.take_take,Nat.min_self]
 have hG63:G≤9223372036854775807:=by
  have:=grownCap_le_maxLen w (n+1) c 83 (by unfold maxLen;omega)
  rw [← hG] at this
  unfold maxLen at this
  omega
 have hGi:¬ (G=i):=by omega
 have hGim:¬ (G=i+1):=by omega
 have hci:¬ (c=i):=by omega
 have hw1:IntKind.i64.wrap ((i:Int)+1)=(i:Int)+1:=by rw [IntKind.wrap_i64];omega
 have hb1:(0:Int)≤(i:Int)+1:=by omega
 have hb5:(i:Int)+1≤(n:Int)+1:=by omega
 have hin:i≤n:=by omega
 have htn:((i:Int)+1).toNat=i+1:=by omega
 have hb3:(i:Int)≤(n:Int):=by omega
 have hb6:(i:Int)≤(n:Int)+1:=by omega
 obtain ⟨R1,hR1⟩:∃ R1:List Value,R1=ROW.take (i*6)++news++ROW.drop (i*6+6):=⟨_,rfl⟩
 have hR1l:R1.length=G*6:=by rw [hR1];simp only [List.length_append,List.length_take,List.length_drop,hnl];omega
 have hcpA:∀ (W:World),W.heap[w.heap.size]? = some (.cells ROW.toArray 83 (0,0))→W.heap[vb]? = some (.cells vx et' (0,0))→∀ ty dc,(Builtin.copy_ #[33,33] ty #[.slice (some ⟨w.heap.size,i*6,none⟩) (n+1 - i) dc,.slice (some ⟨vb,0,none⟩) 1 vc]).run P W =
   .ok (goInt 1) (W.setRow w.heap.size R1.toArray):=fun W hWb hWv ty dc=>by
  have h:=Zy7 W 33 33 ty 83 6 w.heap.size (i*6) (n+1 - i) dc ⟨vb,0,none⟩ 1 vc ROW.toArray 83 news L.t33 hsz hWb
   (by rw [hnl];simp only [Nat.min_def];split<;>omega)
   (fun j v hj=>by rw [Addr.add_lit,Zse hWv,Nat.zero_add];exact hnv j v hj)
   (by rw [hnl];simp only [List.size_toArray];omega) h1v
  have hmin:Nat.min 1 (n+1 - i)=1:=by simp only [Nat.min_def];split<;>omega
  rw [hmin,hnl] at h
  rw [hR1];exact h
 obtain ⟨R2,hR2⟩:∃ R2:List Value,R2=R1.take ((i+1)*6)++(vs.drop (i*6)).take ((n - i)*6)++R1.drop ((i+1)*6+(n - i)*6):=⟨_,rfl⟩
 have htl:((vs.drop (i*6)).take ((n - i)*6)).length=(n - i)*6:=by rw [List.length_take,List.length_drop];omega
 have hcpB:∀ (W:World),W.heap[w.heap.size]? = some (.cells R1.toArray 83 (0,0))→W.heap[b]? = some (.cells vs.toArray et (0,0))→∀ ty dc sc,(Builtin.copy_ #[33,33] ty #[.slice (some ⟨w.heap.size,(i+1)*6,none⟩) (n - i) dc,.slice (some ⟨b,i*6,none⟩) (n - i) sc]).run P W =
   .ok (goInt ((n - i:Nat):Int)) (W.setRow w.heap.size R2.toArray):=fun W hWb hWv ty dc sc=>by
  have h:=Zy7 W 33 33 ty 83 6 w.heap.size ((i+1)*6) (n - i) dc ⟨b,i*6,none⟩ (n - i) sc R1.toArray 83 ((vs.drop (i*6)).take ((n - i)*6)) L.t33 hsz hWb
   (by rw [htl];simp only [Nat.min_def];split<;>omega)
   (fun j v hj=>by
    rw [List.getElem?_take] at hj
    split at hj
    ·rw [Addr.add_lit,Zse hWv,List.getElem?_toArray];rwa [List.getElem?_drop] at hj
    ·cases hj)
   (by rw [htl];simp only [List.size_toArray];omega) (fun v hv=>h1c v (by rw [Nat.sub_mul,← List.drop_take] at hv;exact List.mem_of_mem_drop hv))
  have hmin:Nat.min (n - i) (n - i)=n - i:=by simp only [Nat.min_def];split<;>omega
  rw [hmin,htl] at h
  rw [hR2];exact h
 have hfin:∃ rest:List Value,rest.length=(G - (n+1))*6∧R2=vs.take (i*6)++news++(vs.drop (i*6)).take ((n - i)*6)++rest:=by
  refine ⟨R1.drop ((i+1)*6+(n - i)*6),by rw [List.length_drop];omega,?_⟩
  rw [hR2]
  have:R1.take ((i+1)*6)=vs.take (i*6)++news:=by
   rw [hR1,hRt,List.take_append_of_le_length (by rw [List.length_append];omega),List.take_of_length_le (by rw [List.length_append];omega)]
  rw [this]
 have hA1:((w.alloc (.cells ROW.toArray 83)).drew).heap[w.heap.size]? = some (.cells ROW.toArray 83 (0,0)):=heap_alloc_new w _
 have hA2:((w.alloc (.cells ROW.toArray 83)).drew).heap[vb]? = some (.cells vx et' (0,0)):=(Zg5 w _ vb hvw).trans hv
 have hA3:((w.alloc (.cells ROW.toArray 83)).drew).heap[b]? = some (.cells vs.toArray et (0,0)):=(Zg5 w _ b hbw).trans hw
 have hB1:((((w.alloc (.cells ROW.toArray 83)).drew).setRow w.heap.size R1.toArray).drew).heap[w.heap.size]? = some (.cells R1.toArray 83 (0,0)):=setRow_heap _ w.heap.size _ R1.toArray 83 _ hA1
 have hB2:((((w.alloc (.cells ROW.toArray 83)).drew).setRow w.heap.size R1.toArray).drew).heap[b]? = some (.cells vs.toArray et (0,0)):=by
  show (World.setRow _ _ _).heap[b]? = _
  simp only [World.setRow,Array.getElem?_modify]
  rw [if_neg (by omega)];exact hA3
 have hend:((((w.alloc (.cells ROW.toArray 83)).drew).setRow w.heap.size R1.toArray).drew.setRow w.heap.size R2.toArray).heap=w.heap.push (.cells R2.toArray 83):=by
  apply Array.ext_getElem?
  intro k
  show (World.setRow _ _ _).heap[k]? = _
  simp only [World.setRow,Array.getElem?_modify,Array.getElem?_push]
  by_cases hk:w.heap.size=k
  ·subst hk
   rw [if_pos rfl,if_pos rfl]
   show Option.map _ ((World.setRow _ _ _).heap[w.heap.size]?)=_
   simp only [World.setRow,Array.getElem?_modify,if_true]
   rw [hA1];rfl
  ·rw [if_neg hk,if_neg (fun e=>hk e.symm)]
   show (World.setRow _ _ _).heap[k]? = _
   simp only [World.setRow,Array.getElem?_modify,if_neg hk]
   show (w.heap.push _)[k]? = _
   rw [Array.getElem?_push,if_neg (fun e=>hk e.symm)]
 have hcpA':=hcpA _ hA1 hA2
 have hcpB':=hcpB _ hB1 hB2
 clear hcpA hcpB hA1 hA2 hB1 hB2 hkk hik hold hROW hG hRl hRt hR1 hR1l hR2 htl hzl htk hA3
 go_enter L.f155,ZCq
 go_wp2_with (first
  | (at_builtin;refine Lib.wpList_append_run _ rfl _ _ _ _ rfl _ _ rfl rfl _ _ (hrz _) ?_)
  | fail)
 go_region_law_o (refine step_copy_runI rfl _ _ 33 33 rfl (.slice (some ⟨w.heap.size,(i+1)*6,none⟩) (n - i) (G - (i+1))) (.slice (some ⟨b,i*6,none⟩) (n - i) (c - i)) (by simp [Act.eval,Act.put]) (by simp [Act.eval,Act.put]) (hcpB' 3 (G - (i+1)) (c - i)) ?_)
 go_wp2
 go_ret
 obtain ⟨rest,hrl,hfin⟩:=hfin
 exact ⟨G,rest,hGn,hrl,rfl,by rw [← hfin];exact hend,rfl,rfl,rfl⟩
end
section
open Go.Proofs
def ZYw {α:Type}:List α→Option α
 | [x]=>some x
 | _=>none
theorem ZYx {α:Type} {l:List α} {x:α} (h:ZYw l=some x):l=[x]:=by
 unfold ZYw at h
 split at h
 ·cases h;rfl
 ·cases h
def insP (args:List AV):Prog AV:=match args with
 | [.row id,.int .i64 i,.row id2]=>bif Nat.beq id id2 then .fail else .get id fun
  | .row e1 l1=>.opt (castL e1 tEn l1) fun l=>.get id2 fun
   | .row e2 l2=>.opt (castL e2 tEn l2) fun l'=>.opt (ZYw l') fun x=>
    .ite (decide (0≤i∧i≤(l.length:Nat)∧(l.length+2)*48≤lim)) (.del id (.new (.row tEn (l.take i.toNat++x::l.drop i.toNat)) fun id'=>.ret (.row id'))) .fail
   | .box _=>.fail
  | .box _=>.fail
 | _=>.fail
variable {P:Program}
theorem ZSM {S:Stb} {l:List (D tEn)} {x:D tEn} {vs news rest:List Value} (hr:QG S tEn vs.toArray 0 l) (hs:l.length*6≤vs.length) (hn:news.length=6) (h2:QG S tEn news.toArray 0 [x]) {i:Nat} (hi:i≤l.length) :
  QG S tEn (vs.take (i*6)++news++(vs.drop (i*6)).take ((l.length - i)*6)++rest).toArray 0 (l.take i++x::l.drop i):=by
 have h6:(eTy tEn).size=6:=rfl
 have ho:QG S tEn (vs.take (l.length*6)).toArray 0 l:=fun q hq=>by
  obtain ⟨cs,k1,k2,k3⟩:=hr q hq
  refine ⟨cs,k1,fun j hj=>?_,k3⟩
  have:=k2 j hj
  rw [List.getElem?_toArray] at this ⊢
  rw [h6] at *
  rw [← this,List.getElem?_take_of_lt (by omega)]
 have hol:(vs.take (l.length*6)).length=l.length*(eTy tEn).size:=by rw [List.length_take,h6];omega
 have a1:=QG.take ho hol i hi
 have a2:=QG.drop ho hol i hi
 rw [h6,List.take_take,Nat.min_eq_left (by omega)] at a1
 rw [h6,List.drop_take,← Nat.sub_mul] at a2
 have b1:=QG.append a1 (by rw [List.length_take,List.length_take,h6];omega) h2 (by rw [hn];rfl) []
 rw [List.append_nil] at b1
 have b2:=QG.append b1 (by rw [List.length_append,List.length_append,List.length_take,List.length_take,h6,hn,List.length_singleton];omega) a2
  (by rw [List.length_take,List.length_drop,List.length_drop,h6];omega) rest
 rw [List.append_assoc (l.take i)] at b2
 exact b2
theorem ZZS (L:LayI P) (hf:P.funcs[155]? = some Tryz.f155) (hname:(Tryz.f155.name == "runtime.NumGoroutine")=false):Zf P 155 insP:=by
 intro tr args h ft v h' ft' vals hdr S w ok ev hr hm hv hids hO
 have hbody:∃ c,Tryz.f155.body=some c:=⟨_,rfl⟩
 obtain ⟨c0,hb0⟩:=hbody
 refine ⟨fun args w=>MuLone.run_callFunc_enter hf hname hb0 args w,?_⟩
 unfold insP at ev
 split at ev
 case h_2=>exact (Zj ev).elim
 rename_i id i id2
 rcases ZR ev with ⟨_,ev⟩ | ⟨hne,ev⟩
 ·exact (Zj ev).elim
 obtain ⟨b1,hb1,ev⟩:=Qr ev
 split at ev
 case h_2=>exact (Zj ev).elim
 rename_i e1 l1
 obtain ⟨l,h2,ev⟩:=ZG ev
 obtain ⟨he,hl⟩:=Ke h2
 subst he
 simp only at hl
 subst hl
 obtain ⟨b2,hb2,ev⟩:=Qr ev
 split at ev
 case h_2=>exact (Zj ev).elim
 rename_i e2 l2
 obtain ⟨l',h3,ev⟩:=ZG ev
 obtain ⟨he,hl⟩:=Ke h3
 subst he
 simp only at hl
 subst hl
 obtain ⟨x,h4,ev⟩:=ZG ev
 obtain rfl:=ZYx h4
 rcases Ko ev with ⟨hc,ev⟩ | ⟨_,ev⟩
 case inr=>exact (Zj ev).elim
 obtain ⟨hi0,hi1,hlim⟩:=of_decide_eq_true hc
 obtain ⟨_,ev⟩:=Ztq ev
 have ev:=Zoy ev
 cases ZA ev
 have hidne:id≠id2:=fun e=>by rw [e,ZsJ] at hne;cases hne
 obtain ⟨k,rfl⟩:∃ k:Nat,i=(k:Int):=⟨i.toNat,by omega⟩
 rw [tN0] at *
 have hk:k≤l1.length:=by omega
 have hlim48:(l1.length+2)*48≤lim:=hlim
 have hbig:(l1.length+1)*48≤140737488355328:=by unfold lim at hlim48;omega
 cases hv with | cons _ _ _ _ hx hvn=>
 cases hvn with | cons _ _ _ _ hx2 hvn=>
 cases hvn with | cons _ _ _ _ hx3 hvn=>
 cases hvn
 cases hx2
 cases hx with | row _ ao len cap hh=>
 cases hx3 with | row _ ao2 len2 cap2 hh2=>
 have br2:=hr.blk id2 _ hb2
 cases br2 with
 | row _ _ vb capv vx etv hhv hcv hwv hlv hsv hrv=>
 rw [hh2] at hhv
 cases hhv
 obtain ⟨news,n1,n2,n3⟩:=hrv.news
 have n1:news.length=6:=n1
 have hnv:∀ (j:Nat) (u:Value),news[j]? = some u→vx[j]? = some u:=fun j u hj=>by
  have:=n2 j (List.getElem?_eq_some_iff.1 hj).1
  rw [Nat.zero_add] at this
  rw [this];exact hj
 have n4:∀ u∈news,oneV u=true:=n3.ones (by rw [n1];rfl)
 have hblk2:blkOf (hdr id2)=some vb:=by
  rw [hh2]
  cases cap2 with
  | zero=>omega
  | succ n=>rfl
 have pdel:=Zpg (tr:=tr) hr hm id _ hb1 S (fun _ _ k=>k) (fun _ _ k=>.inl k)
 have mdel:Yd ok (delB h.blks id):=pdel.ment.mono fun n k=>Zng k
 obtain ⟨inf,z,q1,q4,q2,q3,q5⟩:=L.i83
 have fc:∀ w1:World,w1.heap=w.heap→(Builtin.firstCells inf.size 1 (.slice (some ⟨vb,0,none⟩) 1 cap2)).run P w1=.ok news.toArray w1:=fun w1 hw1=>by
  rw [q2];exact Go.Proofs.YtbdcblpjemmipaaGreat.Ex.run_firstCells (w:=w1) (by rw [hw1];exact hwv) news n1 n2
 have fresh:∀ (w':World) (G:Nat) (cs:List Value),l1.length+1≤G→cs.length=G*6→w'.heap=w.heap.push (.cells cs.toArray 83)→w'.os=w.os→w'.tape=w.tape→w'.output=w.output→QG S tEn cs.toArray 0 (l1.take k++x::l1.drop k)→
   ∃ u hdr' S',Ending.returned (.slice (some ⟨w.heap.size,0,none⟩) (l1.length+1) G)=.returned u∧Post tr ok hdr S h w hdr' S' ⟨(h.c,.row tEn (l1.take k++x::l1.drop k))::delB h.blks id,h.c+1⟩ w'∧VRep hdr' S' (.row h.c) u∧∀ n∈(AV.row h.c).ids,okn ok h.c (h.c+1) n:=by
  intro w' G cs hG hcl hheap hos htape hout hre
  have hll:(l1.take k++x::l1.drop k).length=l1.length+1:=by simp only [List.length_append,List.length_take,List.length_cons,List.length_drop];omega
  have pnew:=post_new' (tr:=tr) pdel.real mdel hO (.row tEn (l1.take k++x::l1.drop k)) (fun n hn=>by cases hn) w' hos htape hout (by rw [hheap,Array.size_push];omega)
   (fun n hn=>by rw [hheap,Array.getElem?_push,if_neg (by omega)]) (.slice (some ⟨w.heap.size,0,none⟩) (l1.length+1) G) (by cases G with | zero=>omega | succ n=>exact .inr rfl)
   (fun hdr' _ g2=>.row tEn _ w.heap.size G cs.toArray 83 (by rw [hll];exact g2) (by omega) (by rw [hheap,Array.getElem?_push,if_pos rfl]) (by rw [hll];exact hG) (by simpa using (show cs.length=G*(eTy tEn).size from hcl)) hre)
  refine ⟨_,_,_,rfl,pdel.trans (pnew.weaken fun _ k=>.inl k),.row _ _ _ _ (Yq _ _ _),fun n hn=>?_⟩
  simp [AV.ids] at hn;subst hn;exact .inr ⟨Nat.le_refl _,Nat.lt_succ_self _⟩
 have br:=hr.blk id _ hb1
 cases br with
 | rowNil _ a0 hh'=>
  rw [hh] at hh'
  cases hh'
  obtain rfl:k=0:=by simp at hk;exact hk
  have hfo:(Builtin.firstCells inf.size 0 (.slice ao 0 0)).run P w.drew=.ok ([]:List Value).toArray w.drew:=by
   cases ao<;>simp [Builtin.firstCells,loadCells,loadCellsFrom]
  have hrun:∀ ty,(Builtin.append_ #[33,33] ty #[.slice ao 0 0,.slice (some ⟨vb,0,none⟩) 1 cap2]).run P w=_:=fun ty=>(Zwc (ty:=ty) L.t33 q1 q4 hfo (fc w.drew rfl) (fc w rfl) (by omega) (by rw [q3];simpa using hlim48)).2 (by omega)
  refine (ZOe L ao 0 0 vb cap2 w _ _ hrun).mono ?_
  rintro en w' ⟨rfl,rfl⟩
  have hge:=grownCap_ge w (0+1) 0 83
  refine fresh _ (grownCap w (0+1) 0 83) ([]++news++(Builtin.zeroCells z.cells (grownCap w (0+1) 0 83 - (0+1))).toList) hge ?_ ?_ rfl rfl rfl ?_
  ·have hzc:=size_zeroCells z.cells (grownCap w (0+1) 0 83 - (0+1))
   simp only [List.nil_append,List.length_append,n1,Array.length_toList,hzc,q5];omega
  ·show (w.heap.push _)=_
   congr 2
   apply Array.ext';simp
  ·exact QG.append (S:=S) (l1:=([]:List (D tEn))) (c1:=[]) (fun i hi=>absurd hi (by simp)) (by simp) n3 (by rw [n1];rfl) _
 | row _ _ b cap' vsA et hh' hcap hw hle hs hre=>
  rw [hh] at hh'
  cases hh'
  have hs:vsA.size=cap*6:=hs
  have hblk:blkOf (hdr id)=some b:=by
   rw [hh]
   cases cap with
   | zero=>omega
   | succ n=>rfl
  have hvb:vb≠b:=fun e=>hr.sep id id2 _ _ b hidne hb1 hb2 hblk (by rw [hblk2,e])
  have hwL:w.heap[b]? = some (.cells vsA.toList.toArray et (0,0)):=by simpa using hw
  have hvl:vsA.toList.length=cap*6:=by simpa using hs
  have hreL:QG S tEn vsA.toList.toArray 0 l1:=by simpa using hre
  have inplace:∀ (w':World) (rest:List Value),l1.length+1≤cap→w'.heap[b]? = some (.cells (vsA.toList.take (k*6)++news++(vsA.toList.drop (k*6)).take ((l1.length - k)*6)++rest).toArray et (0,0))→rest.length=(cap - (l1.length+1))*6→
    w'.os=w.os→w'.tape=w.tape→w'.output=w.output→w'.heap.size=w.heap.size→(∀ n,n≠b→w'.heap[n]? = w.heap[n]?)→
   ∃ u hdr' S',Ending.returned (.slice (some ⟨b,0,none⟩) (l1.length+1) cap)=.returned u∧Post tr ok hdr S h w hdr' S' ⟨(h.c,.row tEn (l1.take k++x::l1.drop k))::delB h.blks id,h.c+1⟩ w'∧VRep hdr' S' (.row h.c) u∧∀ n∈(AV.row h.c).ids,okn ok h.c (h.c+1) n:=by
   intro w' rest hroom hheap hrl hos htape hout hsz hoth
   have hll:(l1.take k++x::l1.drop k).length=l1.length+1:=by simp only [List.length_append,List.length_take,List.length_cons,List.length_drop];omega
   have hre2:=ZSM (rest:=rest) hreL (by omega) n1 n3 hk
   refine ⟨_,_,_,rfl,ZzW hr hm hO id (.row tEn (l1.take k++x::l1.drop k)) _ hb1 (fun n hn=>by cases hn) w' b (.slice (some ⟨b,0,none⟩) (l1.length+1) cap) hblk
    (by cases cap with | zero=>omega | succ n=>rfl) hos htape hout hsz hoth
    (fun hdr' _ g2=>.row tEn _ b cap _ et (by rw [hll];exact g2) hcap hheap (by rw [hll];exact hroom) (by
     show _=cap*6
     simp only [List.size_toArray,List.length_append,List.length_take,List.length_drop,n1,hrl];omega) hre2),.row _ _ _ _ (Yq _ _ _),fun n hn=>?_⟩
   simp [AV.ids] at hn;subst hn;exact .inr ⟨Nat.le_refl _,Nat.lt_succ_self _⟩
  obtain ⟨olds,o1,o2,o3⟩:=hre.news
  have o1:olds.length=l1.length*6:=o1
  have holds:vsA.toList.take (l1.length*6)=olds:=by
   refine List.ext_getElem? fun q=>?_
   by_cases hq:q<l1.length*6
   ·rw [List.getElem?_take_of_lt hq,Array.getElem?_toList]
    have:=o2 q (by omega)
    rwa [Nat.zero_add] at this
   ·rw [List.getElem?_eq_none (by rw [List.length_take];omega),List.getElem?_eq_none (by omega)]
  have hones:∀ u∈vsA.toList.take (l1.length*6),oneV u=true:=by rw [holds];exact o3.ones o1
  by_cases hkn:k=l1.length
  ·subst hkn
   have hfo:(Builtin.firstCells inf.size l1.length (.slice (some ⟨b,0,none⟩) l1.length cap)).run P w.drew=.ok olds.toArray w.drew:=by
    rw [q2];exact Go.Proofs.YtbdcblpjemmipaaGreat.Ex.run_firstCells (w:=w.drew) hw olds o1 o2
   have hra:=fun ty=>Zwc (ty:=ty) L.t33 q1 q4 hfo (fc w.drew rfl) (fc w rfl) (by omega) (by rw [q3];exact hlim48)
   by_cases hroom:l1.length+1≤cap
   ·obtain ⟨w',g1,a1,a2,a3,a4,a5,a6⟩:=ZdY P b et news w vsA.toList (l1.length*6) 0 hwL (by omega) n4
    simp only [Nat.add_zero] at a6
    have hrun:∀ ty,(Builtin.append_ #[33,33] ty #[.slice (some ⟨b,0,none⟩) l1.length cap,.slice (some ⟨vb,0,none⟩) 1 cap2]).run P w=.ok (.slice (some ⟨b,0,none⟩) (l1.length+1) cap) w':=fun ty=>by
     rw [(hra ty).1 hroom,q2]
     simp only [stAt,Ztl,Nat.zero_add,g1,Result.andThen_ok]
    refine (ZOe L _ _ _ vb cap2 w _ _ hrun).mono ?_
    rintro en w'' ⟨rfl,rfl⟩
    refine inplace _ (vsA.toList.drop (l1.length*6+news.length)) hroom ?_ (by rw [List.length_drop,n1];omega) a1 a2 a3 a4 a5
    rw [a6,Nat.sub_self,Nat.zero_mul,List.take_zero,List.append_nil]
   ·refine (ZOe L _ _ _ vb cap2 w _ _ (fun ty=>(hra ty).2 (by omega))).mono ?_
    rintro en w' ⟨rfl,rfl⟩
    have hge:=grownCap_ge w (l1.length+1) cap 83
    refine fresh _ (grownCap w (l1.length+1) cap 83) (olds++news++(Builtin.zeroCells z.cells (grownCap w (l1.length+1) cap 83 - (l1.length+1))).toList) hge ?_ ?_ rfl rfl rfl ?_
    ·have hzc:=size_zeroCells z.cells (grownCap w (l1.length+1) cap 83 - (l1.length+1))
     simp only [List.length_append,n1,o1,Array.length_toList,hzc,q5];omega
    ·show (w.heap.push _)=_
     congr 2
     apply Array.ext';simp
    ·rw [List.take_length,List.drop_length]
     exact QG.append o3 o1 n3 (by rw [n1];rfl) _
  ·by_cases hroom:l1.length+1≤cap
   ·refine (ZZR L b l1.length cap k vb cap2 vsA.toList news vx et etv w (by omega) hroom hbig hvb hwL hvl hwv n1 hnv hones n4).mono ?_
    rintro en w' ⟨rfl,rfl⟩
    refine inplace _ (vsA.toList.drop ((l1.length+1)*6)) hroom ?_ (by rw [List.length_drop];omega) rfl rfl rfl ?_ ?_
    ·exact setRow_heap w.drew b _ _ et _ hw
    ·simp [World.setRow]
    ·intro n hn
     show (World.setRow _ _ _).heap[n]? = _
     simp only [World.setRow,Array.getElem?_modify]
     rw [if_neg (fun e=>hn e.symm)];rfl
   ·refine (Z1w L b l1.length cap k vb cap2 vsA.toList news vx et etv w (by omega) hle (by omega) hbig hwL hvl hwv n1 hnv hones n4).mono ?_
    rintro en w' ⟨G,rest,hG,hrl,rfl,hheap,hos,htape,hout⟩
    exact fresh w' G _ hG (by
     simp only [List.length_append,List.length_take,List.length_drop,n1,hrl];omega) hheap hos htape hout (ZSM hreL (by omega) n1 n3 hk)
end
theorem tyOk (t:TypeId) (i:TInfo) (h:tiL tab t=some i):TyOk Tryz.prog tab t i:=ZsT ZxW t i h
theorem layI:LayI Tryz.prog:={
 mixed:=mixed
 f155:=Tryz.func155
 f189:=Tryz.func189
 t3:=by kernel_rfl
 a3:=fun w=>(tyOk 3 _ rfl).isAgg w
 z3:=fun w=>(tyOk 3 _ rfl).sizeOf w
 t4:=by kernel_rfl
 a4:=fun w=>(tyOk 4 _ rfl).isAgg w
 z4:=fun w=>(tyOk 4 _ rfl).sizeOf w
 z83:=fun w=>(tyOk 83 _ rfl).sizeOf w
 t33:=by kernel_rfl
 a33:=fun w=>(tyOk 33 _ rfl).isAgg w
 z33:=fun w=>(tyOk 33 _ rfl).sizeOf w
 i83:=by
  obtain ⟨i,z,h1,h2,h3,h4,h5⟩:=(tyOk 83 _ rfl).info
  refine ⟨i,z,h1,h4,h2,h3,?_⟩
  have:=congrArg List.length h5
  rw [Zff] at this
  exact (by simpa using this:z.cells.size=_) }
def ZgA:List AV→Prog AV:=insP
theorem ZnW:Zf Tryz.prog 155 ZgA:=ZZS layI Tryz.func155 (by kernel_rfl)
def ZUL:List Sh:=[.dat (.sl tEn),.dat (.sl tEn)]
def Zy0:Nat→List Nat:=fun c=>bif c.beq 0 then [5,10,11,12] else [5]
def ZNd:List Con:=[⟨106,Zih,ZoH⟩,⟨153,Km,YC⟩,⟨154,ZwP,ZIw⟩,⟨155,ZgA,ZnW⟩]
def Zk4:StS:=⟨[(5,.row 0),(10,.sl tEn),(11,.int .i64),(12,.int .i64)],[(0,.row tEn)],1⟩
def Zdk:StS:=⟨[(5,.row 0)],[(0,.row tEn)],1⟩
abbrev Zb8:=((List En)×Int×Int×(List En))
def ZJw:StD Zk4→Zb8:=fun ((_,a,b,c,_),(d,_))=>(a,b,c,d)
def ZJ9:Zb8→StD Zk4:=fun (a,b,c,d)=>(((),a,b,c,()),(d,()))
abbrev Yn:=(List En)
def ZZd (d:StD Zdk):Yn:=(d.2.1)
def Zms (x:Yn):StD Zdk:=(((),()),(x,()))
def Zd5 (s10:List En) (s11 s12:Int) (b0:List En):Option (((List En)×Int×Int×(List En))⊕(List En)):=bif decide (s12<s11) then bif decide (0≤s12) then Za s10[s12.toNat]? none fun d6=>bif decide (d6.2.2.2.2.1>d6.2.2.2.2.2) then some (.inl (s10,s11,IntKind.i64.wrap (s12+1),b0)) else Za (Zhc (b0,d6,())) none fun d7=>bif !d7.2.1 then bif decide (0≤d7.1∧d7.1≤(b0.length:Int)∧(b0.length+2)*48≤lim) then some (.inl (s10,s11,IntKind.i64.wrap (s12+1),List.take (Int.toNat d7.1) b0++d6::List.drop (Int.toNat d7.1) b0)) else none else bif decide (0≤d7.1) then Za b0[Int.toNat d7.1]? none fun d8=>Za b0[Int.toNat d7.1]? none fun d9=>bif decide (d9.2.2.2.2.1>d9.2.2.2.2.2) then bif decide (d6.2.2.2.2.1>d6.2.2.2.2.2) then bif decide (0≤d7.1) then Za b0[Int.toNat d7.1]? none fun d10=>Za b0[Int.toNat d7.1]? none fun d11=>some (.inl (s10,s11,IntKind.i64.wrap (s12+1),b0.set (Int.toNat d7.1) (d11.1,d11.2.1,d11.2.2.1,d11.2.2.2.1,1,0))) else none else bif decide (0≤d7.1) then Za b0[Int.toNat d7.1]? none fun d10=>Za b0[Int.toNat d7.1]? none fun d11=>some (.inl (s10,s11,IntKind.i64.wrap (s12+1),b0.set (Int.toNat d7.1) (d11.1,d11.2.1,d11.2.2.1,d11.2.2.2.1,d6.2.2.2.2))) else none else bif decide (d6.2.2.2.2.1>d6.2.2.2.2.2) then bif decide (0≤d7.1) then Za b0[Int.toNat d7.1]? none fun d10=>Za b0[Int.toNat d7.1]? none fun d11=>some (.inl (s10,s11,IntKind.i64.wrap (s12+1),b0.set (Int.toNat d7.1) (d11.1,d11.2.1,d11.2.2.1,d11.2.2.2.1,d9.2.2.2.2))) else none else bif decide (d9.2.2.2.2.1>d9.2.2.2.2.2) then bif decide (0≤d7.1) then Za b0[Int.toNat d7.1]? none fun d10=>Za b0[Int.toNat d7.1]? none fun d11=>some
 (.inl (s10,s11,IntKind.i64.wrap (s12+1),b0.set (Int.toNat d7.1) (d11.1,d11.2.1,d11.2.2.1,d11.2.2.2.1,d6.2.2.2.2))) else none else bif decide (0≤d7.1) then Za b0[Int.toNat d7.1]? none fun d10=>Za b0[Int.toNat d7.1]? none fun d11=>some (.inl (s10,s11,IntKind.i64.wrap (s12+1),b0.set (Int.toNat d7.1) (d11.1,d11.2.1,d11.2.2.1,d11.2.2.2.1,if d6.2.2.2.2.1<d9.2.2.2.2.1 then d6.2.2.2.2.1 else d9.2.2.2.2.1,if d6.2.2.2.2.2>d9.2.2.2.2.2 then d6.2.2.2.2.2 else d9.2.2.2.2.2))) else none else none else none else some (.inr b0)
def ZvN:Zb8→Option (Zb8⊕Yn):=fun (a,b,c,d)=>Zd5 a b c d
def Zku (x:Zb8):Option Yn:=Zh ZvN Zl x
def ZBc:Nat→Tm→Prog (Nat×Tm):=(varP 0 (fun T h=>(rdS Zk4 T h).map ZJw) Zku (altE 2 Zdk Zms) (fun _ _=>.fail))
def ZMB:Lpc:=⟨81,0,21,(fun base T=>.norm base (Zy0 0) T (ZBc base)),by kernel_rfl,by kernel_rfl,(loopU ZNd [] 40 1048576 8 (keep:=Zy0) (q:=ZBc) (by kernel_rfl) (Zv (s:=Zk4) (un:=ZJ9) (by rfl) (fun _=>rfl) (Zn (s:=Zdk) (un:=Zms) (flat:=ZZd) (by rfl) (fun _=>rfl)) (step:=ZvN) (fun _=>by kernel_rfl) (fun _ _ e=>⟨_,e⟩) (Zm 2 Zdk Zms) (ZB.fail _ _)))⟩
def ZyQ (a0 a1:List En):Option (List En):=bif decide (((List.length (α:=I) [])+a0.length+1)*48≤lim) then Za (Zku (a1,(a1.length:Int),0,[]++a0)) none fun d4=>some d4 else none
def Zhb (x:((List En)×((List En)×Unit))):Option (List En):=ZyQ x.1 x.2.1
def Zs8:=conR false ZUL tEn Zhb
theorem ZAa:Zf Tryz.prog 81 Zs8:=ZhA (calU ZNd [ZMB] 40 1048576 8 81) false (by rfl) (fun x r e=>(Zpp _ _ _ _ _ _ _).trans ((show _=Zhb x by kernel_rfl).trans e)) (.inr (by rfl))
def ZdS  (s10:(List En)) (i:Nat) (b0:(List En)) (d:En):Option ((List En)⊕Yn):=
 bif decide (d.2.2.2.2.1>d.2.2.2.2.2) then
  some (.inl (b0))
 else Za (Zhc (b0,d,())) (none) fun d7=>
  bif !d7.2.1 then
  bif decide (0≤d7.1∧d7.1≤(↑b0.length:Int)∧(b0.length+2)*48≤lim) then
  some (.inl (List.take (Int.toNat d7.1) b0++d::List.drop (Int.toNat d7.1) b0))
 else none
 else bif decide (0≤d7.1) then
  Za b0[Int.toNat d7.1]? (none) fun d8=>
  Za b0[Int.toNat d7.1]? (none) fun d9=>
  bif decide (d9.2.2.2.2.1>d9.2.2.2.2.2) then
  bif decide (d.2.2.2.2.1>d.2.2.2.2.2) then
  bif decide (0≤d7.1) then
  Za b0[Int.toNat d7.1]? (none) fun d10=>
  Za b0[Int.toNat d7.1]? (none) fun d11=>
  some (.inl (b0.set (Int.toNat d7.1) (d11.1,d11.2.1,d11.2.2.1,d11.2.2.2.1,1,0)))
 else none
 else bif decide (0≤d7.1) then
  Za b0[Int.toNat d7.1]? (none) fun d10=>
  Za b0[Int.toNat d7.1]? (none) fun d11=>
  some (.inl (b0.set (Int.toNat d7.1) (d11.1,d11.2.1,d11.2.2.1,d11.2.2.2.1,d.2.2.2.2)))
 else none
 else bif decide (d.2.2.2.2.1>d.2.2.2.2.2) then
  bif decide (0≤d7.1) then
  Za b0[Int.toNat d7.1]? (none) fun d10=>
  Za b0[Int.toNat d7.1]? (none) fun d11=>
  some (.inl (b0.set (Int.toNat d7.1) (d11.1,d11.2.1,d11.2.2.1,d11.2.2.2.1,d9.2.2.2.2)))
 else none
 else bif decide (d9.2.2.2.2.1>d9.2.2.2.2.2) then
  bif decide (0≤d7.1) then
  Za b0[Int.toNat d7.1]? (none) fun d10=>
  Za b0[Int.toNat d7.1]? (none) fun d11=>
  some (.inl (b0.set (Int.toNat d7.1) (d11.1,d11.2.1,d11.2.2.1,d11.2.2.2.1,d.2.2.2.2)))
 else none
 else bif decide (0≤d7.1) then
  Za b0[Int.toNat d7.1]? (none) fun d10=>
  Za b0[Int.toNat d7.1]? (none) fun d11=>
  some (.inl (b0.set (Int.toNat d7.1) (d11.1,d11.2.1,d11.2.2.1,d11.2.2.2.1,if d.2.2.2.2.1<d9.2.2.2.2.1 then d.2.2.2.2.1 else d9.2.2.2.2.1,if d.2.2.2.2.2>d9.2.2.2.2.2 then d.2.2.2.2.2 else d9.2.2.2.2.2)))
 else none
 else none
def Zu2  (s10:(List En)) (b0:(List En)):Option Yn:=
 some b0
abbrev ZJW  (s10:(List En)) (i:Nat) (s:(List En)):Zb8:=(s10,(s10.length:Int),(i:Int),s)
def Zop  (s10:(List En)) (s:(List En)):Option Yn:=Zp (fun i s d=>ZdS  s10 i s d) (fun s=>Zu2  s10 s) 0 s10 s
theorem ZJQ  (s10:(List En)) (s:(List En)) (hl:s10.length<9223372036854775807):Zku (s10,(s10.length:Int),0,s)=Zop  s10 s:=by
 unfold Zku Zop
 refine Zs s10 (ZJW  s10) _ _ ?_ ?_ s (by unfold Zl;omega)
 ·intro i s d hi hd
  have e1:decide ((i:Int)<(s10.length:Int))=true:=dT0 (by omega)
  have e2:decide (0≤(i:Int))=true:=dT0 (by omega)
  have e3:Int.toNat (i:Int)=i:=tN0 i
  have e4:=Zq hi (Nat.le_of_lt hl)
  show Zd5 (s10) ((s10.length:Int)) ((i:Int)) (s)=upd _ (ZdS  s10 i s d)
  unfold Zd5 ZdS
  simp only [e1,e2,e3,e4,hd,cond_true,cond_false,Zb,ZC,ZF,ZD,ZI,ZJ,ZE]
 ·intro s
  have e1:decide ((s10.length:Int)<(s10.length:Int))=false:=dF0 (by omega)
  show Zd5 (s10) ((s10.length:Int)) ((s10.length:Int)) (s)=_
  unfold Zd5 Zu2
  rw [e1]
  rfl
def ZQn:List Sh:=[.dat tI,.dat tI,.dat (.sl (.int .i64))]
def ZtG:Nat→List Nat:=fun c=>bif c.beq 0 then [3,6,7,8,9,24,25,26] else [3,6,7,8,9]
def ZID:List Con:=[⟨153,Km,YC⟩,⟨111,HU,W4⟩,⟨69,ZwH,ZIt⟩]
def Zgb:StS:=⟨[(3,.ptr 0 0),(6,.ptr 1 0),(7,.ptr 2 0),(8,.int .i64),(9,.int .i64),(24,.sl (.int .i64)),(25,.int .i64),(26,.int .i64)],[(0,.box [.int .i64,.int .i64]),(1,.box [.int .i64,.int .i64]),(2,.box [.int .i64,.int .i64])],3⟩
def V8:StS:=⟨[(3,.ptr 0 0),(6,.ptr 1 0),(7,.ptr 2 0),(8,.int .i64),(9,.int .i64)],[(0,.box [.int .i64,.int .i64]),(1,.box [.int .i64,.int .i64]),(2,.box [.int .i64,.int .i64])],3⟩
abbrev Hs:=(Int×Int×(List Int)×Int×Int×Int×Int×Int×Int×Int×Int)
def ZCy:StD Zgb→Hs:=fun ((_,_,_,a,b,c,d,e,_),((f,g,_),(h,i,_),(j,k,_),_))=>(a,b,c,d,e,f,g,h,i,j,k)
def ZEi:Hs→StD Zgb:=fun (a,b,c,d,e,f,g,h,i,j,k)=>(((),(),(),a,b,c,d,e,()),((f,g,()),(h,i,()),(j,k,()),()))
abbrev Jk:=(Int×Int×Int×Int×Int×Int×Int×Int)
def ZUW:StD V8→Jk:=fun ((_,_,_,a,b,_),((c,d,_),(e,f,_),(g,h,_),_))=>(a,b,c,d,e,f,g,h)
def Zix:Jk→StD V8:=fun (a,b,c,d,e,f,g,h)=>(((),(),(),a,b,()),((c,d,()),(e,f,()),(g,h,()),()))
def W7 (s8 s9:Int) (s24:List Int) (s25 s26 b0 b0_1 b1 b1_1 b2 b2_1:Int):Option ((Int×Int×(List Int)×Int×Int×Int×Int×Int×Int×Int×Int)⊕(Int×Int×Int×Int×Int×Int×Int×Int)):=bif decide (s26<s25) then bif decide (0≤s26) then Za s24[s26.toNat]? none fun d13=>Za (Zg9 ([d13],())) none fun d14=>bif !d14 then some (.inl (s8,s9,s24,s25,IntKind.i64.wrap (s26+1),b0,b0_1,b1,b1_1,b2,b2_1)) else bif decide (d13≤b2) then bif decide (d13≥b2_1) then some (.inl (if d13>s8 then d13 else s8,if d13<s9 then d13 else s9,s24,s25,IntKind.i64.wrap (s26+1),b0,b0_1,b1,b1_1,b2,b2_1)) else some (.inl (if d13>s8 then d13 else s8,s9,s24,s25,IntKind.i64.wrap (s26+1),b0,b0_1,b1,b1_1,b2,b2_1)) else bif decide (d13≥b2_1) then some (.inl (s8,if d13<s9 then d13 else s9,s24,s25,IntKind.i64.wrap (s26+1),b0,b0_1,b1,b1_1,b2,b2_1)) else some (.inl (s8,s9,s24,s25,IntKind.i64.wrap (s26+1),b0,b0_1,b1,b1_1,b2,b2_1)) else none else some (.inr (s8,s9,b0,b0_1,b1,b1_1,b2,b2_1))
def Zq8:Hs→Option (Hs⊕Jk):=fun (a,b,c,d,e,f,g,h,i,j,k)=>W7 a b c d e f g h i j k
def Zbi (x:Hs):Option Jk:=Zh Zq8 Zl x
def Zvo:Nat→Tm→Prog (Nat×Tm):=(varP 0 (fun T h=>(rdS Zgb T h).map ZCy) Zbi (altE 3 V8 Zix) (fun _ _=>.fail))
def ZHQ:Lpc:=⟨109,1,64,(fun base T=>.norm base (ZtG 0) T (Zvo base)),by kernel_rfl,by kernel_rfl,(loopU ZID [] 40 1048576 8 (keep:=ZtG) (q:=Zvo) (by kernel_rfl) (Zv (s:=Zgb) (un:=ZEi) (by rfl) (fun _=>rfl) (Zn (s:=V8) (un:=Zix) (flat:=ZUW) (by rfl) (fun _=>rfl)) (step:=Zq8) (fun _=>by kernel_rfl) (fun _ _ e=>⟨_,e⟩) (Zm 3 V8 Zix) (ZB.fail _ _)))⟩
def ZzG (a0 a1:I) (a2:List Int):Option I:=bif decide (a1.1>a1.2) then some (a0.1,a0.2) else bif decide (a0.1>a0.2) then some (a1.1,a1.2) else Za (ZM ([a0,a1],())) none fun d5=>Za (Zbi (-2147483648,2147483647,a2,(a2.length:Int),0,a0.1,a0.2,0,0,d5)) none fun d6=>bif decide (d6.2.2.2.2.2.2.1<d6.2.2.1) then bif decide (d6.2.2.2.2.2.2.2>d6.2.2.2.1) then some (d6.1,d6.2.1) else some (d6.1,d6.2.2.2.2.2.2.2) else bif decide (d6.2.2.2.2.2.2.2>d6.2.2.2.1) then some (d6.2.2.2.2.2.2.1,d6.2.1) else some (d6.2.2.2.2.2.2.1,d6.2.2.2.2.2.2.2)
def Ze8 (x:(I×(I×((List Int)×Unit)))):Option I:=ZzG x.1 x.2.1 x.2.2.1
def ZoU:=conP true ZQn (.dat tI) Ze8
theorem ZuP:Zf Tryz.prog 109 ZoU:=Ze (calU ZID [ZHQ] 40 1048576 8 109) true (by rfl) (by rfl) (fun x r e=>(Zk _ _ _ _ _ _ _).trans ((show _=Ze8 x by kernel_rfl).trans e)) (.inl rfl)
theorem Z6c (a b:Int):Zn4 a b=some (cmpI a b 0):=by
 unfold Zn4 cmpI
 simp only [cond_eq_ite,bne_self_eq_false,Bool.false_eq_true,if_false,decide_eq_true_eq]
 (repeat' split)<;>rfl
theorem Z4z (b:Bool):ZMs b=some (arrK b):=by cases b<;>rfl
theorem Z6S (a b c d:Int):ZwS [a,b,c,d]=some (bif a !=0 then a else bif b !=0 then b else bif c !=0 then c else d):=by
 unfold ZwS
 have h:=ZBd 0 [a,b,c,d] () (by simp)
 have e:WJ (0,[a,b,c,d],(([a,b,c,d]:List Int).length:Int),0)=_:=h
 rw [e]
 unfold ZjA
 simp only [Zp,ZdC,Zjm]
 cases ha:a !=0<;>cases hb:b !=0<;>cases hc:c !=0<;>cases hd:d !=0<;>(try rfl)
 have:d=0:=by simpa using hd
 subst this;rfl
theorem ZKz (a b:En):ZzS a b=some (ordI a b):=by
 unfold ZzS ZaT Zp8 Zp0
 simp only [Z6c,Z4z,Zb,Z6S]
 congr 1
 rw [ZI7]
 have:IntKind.i64.wrap (arrK a.2.1 - arrK b.2.1)=arrK a.2.1 - arrK b.2.1:=wr (by unfold arrK;split<;>split<;>decide)
 rw [this]
 have ha:arrK a.2.1=0∨arrK a.2.1=1:=by unfold arrK;split<;>simp
 have hb:arrK b.2.1=0∨arrK b.2.1=1:=by unfold arrK;split<;>simp
 generalize arrK a.2.1=p at *
 generalize arrK b.2.1=q at *
 unfold cmpI
 simp only [cond_eq_ite,bne_iff_ne]
 (repeat' split)<;>omega
theorem half (a:Int) (h0:0≤a) (h:a<4611686018427387904):IntKind.i64.wrap ((IntKind.u64.wrap (IntKind.i64.wrap a)).fdiv (2 ^ min (Int.toNat 1) IntKind.u64.bits))=a / 2:=by
 have e1:IntKind.i64.wrap a=a:=wr (by omega)
 have e2:IntKind.u64.wrap a=a:=by
  simp [IntKind.wrap,IntKind.signed,IntKind.bits]
  omega
 have e3:(2:Int) ^ min (Int.toNat 1) IntKind.u64.bits=2:=by decide
 rw [e1,e2,e3,Int.fdiv_eq_ediv_of_nonneg _ (by omega)]
 exact wr (by omega)
theorem ZN8 (l:List En) (hs:srt l) (hn:l.length<2305843009213693952) (n b0:Int) (b01:Bool) (b02 b03 b04 b05:Int) (e:En):∀ (k fuel i j:Nat),j - i≤k→k<fuel→i≤posT e l→posT e l≤j→j≤l.length→
  Zh Zgz fuel (l,n,(i:Int),(j:Int),b0,b01,b02,b03,b04,b05,e)=some (l,n,(posT e l:Int),b0,b01,b02,b03,b04,b05,e)
 | k,0,i,j,h1,h2,_,_,_=>absurd h2 (by omega)
 | k,fuel+1,i,j,h1,h2,h3,h4,h5=>by
  rw [Zh]
  simp only [Zgz,ZrX]
  by_cases hij:i<j
  ·rw [dT0 (show (i:Int)<(j:Int) by omega)]
   have hh:=half ((i:Int)+(j:Int)) (by omega) (by omega)
   rw [hh,show ((i:Int)+(j:Int)) / 2=(((i+j) / 2:Nat):Int) by omega]
   generalize hm:(i+j) / 2=m
   have hml:m<l.length:=by omega
   rw [dT0 (show (0:Int)≤(m:Int) by omega),tN0,List.getElem?_eq_getElem hml]
   simp only [cond_true,Zb,Zly]
   have hd:l[m]? = some l[m]:=List.getElem?_eq_getElem hml
   generalize l[m]=d at hd
   rw [show ((e.1,e.2.1,e.2.2.1,e.2.2.2.1,e.2.2.2.2.1,e.2.2.2.2.2):En)=e from rfl,ZKz]
   simp only [Zb]
   obtain ⟨k',rfl⟩:∃ k',k=k'+1:=⟨k - 1,by omega⟩
   by_cases ho:ordI d e<0
   ·rw [dT0 ho,show IntKind.i64.wrap ((m:Int)+1)=((m+1:Nat):Int) by rw [wr (by omega)];omega]
    have hp:m<posT e l:=by
     by_cases q:posT e l≤m
     ·exact absurd ho (ZIi hs m d q hd)
     ·omega
    exact ZN8 l hs hn n b0 b01 b02 b03 b04 b05 e k' fuel (m+1) j (by omega) (by omega) (by omega) h4 h5
   ·rw [dF0 ho]
    have hp:posT e l≤m:=by
     by_cases q:m<posT e l
     ·exact absurd (ZDu e l m d q hd) ho
     ·omega
    exact ZN8 l hs hn n b0 b01 b02 b03 b04 b05 e k' fuel i m (by omega) (by omega) h3 hp (by omega)
  ·have:posT e l=i:=by omega
   rw [dF0 (show ¬ (i:Int)<(j:Int) by omega),this]
   rfl
theorem ZW2 {e:En} {l:List En} (h:fndT e l=true):posT e l<l.length:=by
 obtain ⟨d,hd,_⟩:=Ztv e l h
 exact (List.getElem?_eq_some_iff.1 hd).1
theorem ZZO (e:En) (l:List En) (d:En) (hd:l[posT e l]? = some d):fndT e l=(ordI d e==0):=by
 cases h:fndT e l with
 | true=>
  obtain ⟨c,hc,hk⟩:=Ztv e l h
  rw [hd] at hc;cases hc
  exact (beq_iff_eq.2 (ZtY.2 hk)).symm
 | false=>exact (beq_eq_false_iff_ne.2 (ZSz e l h d hd)).symm
theorem ZMJ (l:List En) (e:En) (hs:srt l) (hn:l.length<2305843009213693952):ZC8 l e=some ((posT e l:Int),fndT e l,()):=by
 unfold ZC8
 have h:=ZN8 l hs hn (l.length:Int) e.1 e.2.1 e.2.2.1 e.2.2.2.1 e.2.2.2.2.1 e.2.2.2.2.2 e l.length Zl 0 l.length (by omega) (by unfold Zl;omega) (Nat.zero_le _) (ZIj e l) (Nat.le_refl _)
 rw [show ZmL (l,(l.length:Int),0,(l.length:Int),e.1,e.2.1,e.2.2.1,e.2.2.2.1,e.2.2.2.2.1,e.2.2.2.2.2,e)=_ from h]
 simp only [Zb]
 by_cases hp:posT e l<l.length
 ·rw [dT0 (show (posT e l:Int)<(l.length:Int) by omega),dT0 (show (0:Int)≤(posT e l:Int) by omega),tN0]
  have hd:l[posT e l]? = some l[posT e l]:=List.getElem?_eq_getElem hp
  rw [hd]
  simp only [cond_true,Zb,Zly,ZKz]
  rw [ZZO e l _ hd]
 ·rw [dF0 (show ¬ (posT e l:Int)<(l.length:Int) by omega)]
  cases hf:fndT e l with
  | true=>exact absurd (ZW2 hf) hp
  | false=>rfl
theorem ZPJ (e:En) (L:List En):∀ (r:List En) (j:Nat),j+r.length=L.length→
  Zp (fun i s d=>Qd e.1 e.2.1 e.2.2.1 e.2.2.2.1 e.2.2.2.2.1 e.2.2.2.2.2 L i d) (fun s=>ZdI e.1 e.2.1 e.2.2.1 e.2.2.2.1 e.2.2.2.2.1 e.2.2.2.2.2 L) j r ()=some (L,((j+posT e r:Nat):Int),e)
 | [],j,h=>by
  show some (L,(L.length:Int),e)=_
  simp only [List.length_nil,Nat.add_zero] at h
  rw [← h];rfl
 | d::r,j,h=>by
  have hb:Qd e.1 e.2.1 e.2.2.1 e.2.2.2.1 e.2.2.2.2.1 e.2.2.2.2.2 L j d=bif decide (ordI d e<0) then some (.inl ()) else some (.inr (L,(j:Int),e)):=by
   unfold Qd Jd
   simp only [Zlo,Zb]
  unfold posT
  by_cases q:ordI d e<0
  ·rw [dT0 q] at hb
   rw [if_pos q,Qq hb,ZPJ e L r (j+1) (by simp only [List.length_cons] at h;omega),show j+(posT e r+1)=j+1+posT e r by omega]
  ·rw [dF0 q] at hb
   rw [if_neg q]
   unfold Zp
   rw [hb]
   rfl
theorem ZDp (l:List En) (e:En) (hl:l.length<9223372036854775807):Zlm l e=some ((posT e l:Int),fndT e l,()):=by
 have h2:=ZPJ e l l 0 (by omega)
 rw [Nat.zero_add] at h2
 unfold Zlm
 rw [show YF (l,0,e)=some (l,(posT e l:Int),e) from (ZpC e.1 e.2.1 e.2.2.1 e.2.2.2.1 e.2.2.2.2.1 e.2.2.2.2.2 l () hl).trans h2]
 simp only [Zb]
 by_cases hp:posT e l<l.length
 ·have hd:l[posT e l]? = some l[posT e l]:=List.getElem?_eq_getElem hp
  rw [dT0 (show (posT e l:Int)<(l.length:Int) by omega),dT0 (show (0:Int)≤(posT e l:Int) by omega),tN0,hd]
  simp only [cond_true,Zb,Jd,Zlo]
  rw [ZZO e l _ hd]
 ·rw [dF0 (show ¬ (posT e l:Int)<(l.length:Int) by omega)]
  cases hf:fndT e l with
  | true=>exact absurd (ZW2 hf) hp
  | false=>rfl
def YV (b0 b0_1 b1 b1_1 b2 b2_1:Int) (s24:List Int) (i:Nat) (s8 s9 d:Int):Option ((Int×Int)⊕Jk):=
 Za (Zg9 ([d],())) (none) fun d14=>
  bif !d14 then
  some (.inl (s8,s9))
 else bif decide (d≤b2) then
  bif decide (d≥b2_1) then
  some (.inl (if d>s8 then d else s8,if d<s9 then d else s9))
 else some (.inl (if d>s8 then d else s8,s9))
 else bif decide (d≥b2_1) then
  some (.inl (s8,if d<s9 then d else s9))
 else some (.inl (s8,s9))
def ZkA (b0 b0_1 b1 b1_1 b2 b2_1:Int) (s24:List Int) (s8 s9:Int):Option Jk:=
 some (s8,s9,b0,b0_1,b1,b1_1,b2,b2_1)
abbrev ZDP (b0 b0_1 b1 b1_1 b2 b2_1:Int) (s24:List Int) (i:Nat) (s:Int×Int):Hs:=(s.1,s.2,s24,(s24.length:Int),(i:Int),b0,b0_1,b1,b1_1,b2,b2_1)
def ZqY (b0 b0_1 b1 b1_1 b2 b2_1:Int) (s24:List Int) (s:Int×Int):Option Jk:=Zp (fun i s d=>YV b0 b0_1 b1 b1_1 b2 b2_1 s24 i s.1 s.2 d) (fun s=>ZkA b0 b0_1 b1 b1_1 b2 b2_1 s24 s.1 s.2) 0 s24 s
theorem ZDE (b0 b0_1 b1 b1_1 b2 b2_1:Int) (s24:List Int) (s:Int×Int) (hl:s24.length<9223372036854775807):Zbi (s.1,s.2,s24,(s24.length:Int),0,b0,b0_1,b1,b1_1,b2,b2_1)=ZqY b0 b0_1 b1 b1_1 b2 b2_1 s24 s:=by
 unfold Zbi ZqY
 refine Zs s24 (ZDP b0 b0_1 b1 b1_1 b2 b2_1 s24) _ _ ?_ ?_ s (by unfold Zl;omega)
 ·intro i s d hi hd
  have e1:decide ((i:Int)<(s24.length:Int))=true:=dT0 (by omega)
  have e2:decide (0≤(i:Int))=true:=dT0 (by omega)
  have e3:Int.toNat (i:Int)=i:=tN0 i
  have e4:=Zq hi (Nat.le_of_lt hl)
  show W7 (s.1) (s.2) (s24) ((s24.length:Int)) ((i:Int)) (b0) (b0_1) (b1) (b1_1) (b2) (b2_1)=upd _ (YV b0 b0_1 b1 b1_1 b2 b2_1 s24 i s.1 s.2 d)
  unfold W7 YV
  simp only [e1,e2,e3,e4,hd,cond_true,cond_false,Zb,ZC,ZF,ZD,ZI,ZJ,ZE]
 ·intro s
  have e1:decide ((s24.length:Int)<(s24.length:Int))=false:=dF0 (by omega)
  show W7 (s.1) (s.2) (s24) ((s24.length:Int)) ((s24.length:Int)) (b0) (b0_1) (b1) (b1_1) (b2) (b2_1)=_
  unfold W7 ZkA
  rw [e1]
  rfl
abbrev YT:=((List Int)×Int×Int×Int×Int×Int×Int×Int×Int×Int)
abbrev Q3:=(Int×Int×Int×Int×Int×Int×Int×Int)
def VX (s2:List Int) (s8 s9 s10 b0 b0_1 b1 b1_1 b2 b2_1:Int):Option (((List Int)×Int×Int×Int×Int×Int×Int×Int×Int×Int)⊕(Int×Int×Int×Int×Int×Int×Int×Int)):=bif decide (s10<(s2.length:Int)) then bif decide (0≤s10) then Za s2[s10.toNat]? none fun d12=>bif decide (d12≤b2) then bif decide (d12>s8) then bif decide (d12≥b2_1) then bif decide (d12<s9) then some (.inl (s2,d12,d12,IntKind.i64.wrap (s10+1),b0,b0_1,b1,b1_1,b2,b2_1)) else some (.inl (s2,d12,s9,IntKind.i64.wrap (s10+1),b0,b0_1,b1,b1_1,b2,b2_1)) else some (.inl (s2,d12,s9,IntKind.i64.wrap (s10+1),b0,b0_1,b1,b1_1,b2,b2_1)) else bif decide (d12≥b2_1) then bif decide (d12<s9) then some (.inl (s2,s8,d12,IntKind.i64.wrap (s10+1),b0,b0_1,b1,b1_1,b2,b2_1)) else some (.inl (s2,s8,s9,IntKind.i64.wrap (s10+1),b0,b0_1,b1,b1_1,b2,b2_1)) else some (.inl (s2,s8,s9,IntKind.i64.wrap (s10+1),b0,b0_1,b1,b1_1,b2,b2_1)) else bif decide (d12≥b2_1) then bif decide (d12<s9) then some (.inl (s2,s8,d12,IntKind.i64.wrap (s10+1),b0,b0_1,b1,b1_1,b2,b2_1)) else some (.inl (s2,s8,s9,IntKind.i64.wrap (s10+1),b0,b0_1,b1,b1_1,b2,b2_1)) else some (.inl (s2,s8,s9,IntKind.i64.wrap (s10+1),b0,b0_1,b1,b1_1,b2,b2_1)) else none else some (.inr (s8,s9,b0,b0_1,b1,b1_1,b2,b2_1))
def ZpR:YT→Option (YT⊕Q3):=fun (a,b,c,d,e,f,g,h,i,j)=>VX a b c d e f g h i j
def WM (x:YT):Option Q3:=Zh ZpR Zl x
def Zw1 (a0 a1:I) (a2:List Int):Option I:=bif decide (a1.1>a1.2) then some (a0.1,a0.2) else bif decide (a0.1>a0.2) then some (a1.1,a1.2) else Za (Zz (a0,a1,())) none fun d5=>Za (WM (a2,-2147483648,2147483647,0,a0.1,a0.2,0,0,d5)) none fun d6=>bif decide (d6.2.2.2.2.2.2.1<d6.2.2.1) then bif decide (d6.2.2.2.2.2.2.2>d6.2.2.2.1) then some (d6.1,d6.2.1) else some (d6.1,d6.2.2.2.2.2.2.2) else bif decide (d6.2.2.2.2.2.2.2>d6.2.2.2.1) then some (d6.2.2.2.2.2.2.1,d6.2.1) else some (d6.2.2.2.2.2.2.1,d6.2.2.2.2.2.2.2)
def Zfq (x:(I×(I×((List Int)×Unit)))):Option I:=Zw1 x.1 x.2.1 x.2.2.1
def K4 (b0 b0_1 b1 b1_1 b2 b2_1:Int) (s2:List Int) (i:Nat) (s8 s9 d:Int):Option ((Int×Int)⊕Q3):=
 bif decide (d≤b2) then
  bif decide (d>s8) then
  bif decide (d≥b2_1) then
  bif decide (d<s9) then
  some (.inl (d,d))
 else some (.inl (d,s9))
 else some (.inl (d,s9))
 else bif decide (d≥b2_1) then
  bif decide (d<s9) then
  some (.inl (s8,d))
 else some (.inl (s8,s9))
 else some (.inl (s8,s9))
 else bif decide (d≥b2_1) then
  bif decide (d<s9) then
  some (.inl (s8,d))
 else some (.inl (s8,s9))
 else some (.inl (s8,s9))
def Zjs (b0 b0_1 b1 b1_1 b2 b2_1:Int) (s2:List Int) (s8 s9:Int):Option Q3:=
 some (s8,s9,b0,b0_1,b1,b1_1,b2,b2_1)
abbrev ZBx (b0 b0_1 b1 b1_1 b2 b2_1:Int) (s2:List Int) (i:Nat) (s:Int×Int):YT:=(s2,s.1,s.2,(i:Int),b0,b0_1,b1,b1_1,b2,b2_1)
def ZpE (b0 b0_1 b1 b1_1 b2 b2_1:Int) (s2:List Int) (s:Int×Int):Option Q3:=Zp (fun i s d=>K4 b0 b0_1 b1 b1_1 b2 b2_1 s2 i s.1 s.2 d) (fun s=>Zjs b0 b0_1 b1 b1_1 b2 b2_1 s2 s.1 s.2) 0 s2 s
theorem ZBk (b0 b0_1 b1 b1_1 b2 b2_1:Int) (s2:List Int) (s:Int×Int) (hl:s2.length<9223372036854775807):WM (s2,s.1,s.2,0,b0,b0_1,b1,b1_1,b2,b2_1)=ZpE b0 b0_1 b1 b1_1 b2 b2_1 s2 s:=by
 unfold WM ZpE
 refine Zs s2 (ZBx b0 b0_1 b1 b1_1 b2 b2_1 s2) _ _ ?_ ?_ s (by unfold Zl;omega)
 ·intro i s d hi hd
  have e1:decide ((i:Int)<(s2.length:Int))=true:=dT0 (by omega)
  have e2:decide (0≤(i:Int))=true:=dT0 (by omega)
  have e3:Int.toNat (i:Int)=i:=tN0 i
  have e4:=Zq hi (Nat.le_of_lt hl)
  show VX (s2) (s.1) (s.2) ((i:Int)) (b0) (b0_1) (b1) (b1_1) (b2) (b2_1)=upd _ (K4 b0 b0_1 b1 b1_1 b2 b2_1 s2 i s.1 s.2 d)
  unfold VX K4
  simp only [e1,e2,e3,e4,hd,cond_true,cond_false,Zb,ZC,ZF,ZD,ZI,ZJ,ZE]
 ·intro s
  have e1:decide ((s2.length:Int)<(s2.length:Int))=false:=dF0 (by omega)
  show VX (s2) (s.1) (s.2) ((s2.length:Int)) (b0) (b0_1) (b1) (b1_1) (b2) (b2_1)=_
  unfold VX Zjs
  rw [e1]
  rfl
def stpT (f:I→I→I) (l:List En) (e:En):List En:=if Zd (vl e) then l else pinT f e l
def addT (f:I→I→I) (l es:List En):List En:=es.foldl (stpT f) l
theorem ZD8 (f:I→I→I) (l:List En) (e:En):(stpT f l e).length≤l.length+1:=by
 unfold stpT
 have:=ZXt f e l
 split<;>omega
theorem ZD9 {f:I→I→I} {l:List En} {e:En} (h:srt l):srt (stpT f l e):=by
 unfold stpT
 split
 ·exact h
 ·exact ZXu h
theorem Zlz (f:I→I→I):∀ (es l:List En),(addT f l es).length≤l.length+es.length
 | [],l=>Nat.le_refl _
 | e::r,l=>by
  have h1:=Zlz f r (stpT f l e)
  have h2:=ZD8 f l e
  show (addT f (stpT f l e) r).length≤_
  rw [List.length_cons];omega
theorem ZlA {f:I→I→I}:∀ {es l:List En},srt l→srt (addT f l es)
 | [],l,h=>h
 | e::r,l,h=>ZlA (es:=r) (ZD9 h)
theorem ZW7 {n p:Nat} (h:n≤1000000000) (hp:p≤n):decide (0≤(p:Int)∧(p:Int)≤(n:Int)∧(n+2)*48≤lim)=true:=dT0 (by unfold lim;omega)
theorem Z1f (L:List En) (j:Nat) (s:List En) (d:En) (hs:srt s) (hn:s.length≤1000000000):ZdS L j s d=some (.inl (stpT Zg s d)):=by
 unfold ZdS stpT
 rw [show decide (d.2.2.2.2.1>d.2.2.2.2.2)=Zd (vl d) from rfl]
 cases hE:Zd (vl d)
 case true=>rfl
 simp only [cond_false,Zhc,ZMJ s d hs (by omega),Zb,Bool.false_eq_true,if_false]
 cases hf:fndT d s
 ·simp only [Bool.not_false,cond_true,ZW7 hn (ZIj d s),tN0]
  rw [ZI9 _ _ _ hf]
 ·obtain ⟨x,hx,hk⟩:=Ztv d s hf
  simp only [Bool.not_true,cond_false,cond_true,dT0 (show (0:Int)≤(posT d s:Int) by omega),tN0,hx,Zb]
  rw [ZJa _ _ _ x hf hx]
  rw [show decide (x.2.2.2.2.1>x.2.2.2.2.2)=Zd (vl x) from rfl]
  unfold Zg
  cases hX:Zd (vl x)
  ·simp only [cond_false,hE,Bool.false_eq_true,if_false]
   rfl
  ·simp only [cond_true,hE,Bool.false_eq_true,if_false,if_true]
   rfl
theorem Z0j (L:List En) (j:Nat) (s:List En) (d:En) (hn:s.length≤1000000000):Q9 L j s d=some (.inl (stpT rJoin s d)):=by
 unfold Q9 stpT
 rw [show decide (d.2.2.2.2.1>d.2.2.2.2.2)=Zd (vl d) from rfl]
 cases hE:Zd (vl d)
 case true=>rfl
 simp only [cond_false,Je,ZDp s d (by omega),Zb,Bool.false_eq_true,if_false]
 have hp:=ZIj d s
 cases hf:fndT d s
 ·have e1:decide ((0:Int)≤0∧0≤(posT d s:Int)∧(posT d s:Int)≤(s.length:Int))=true:=dT0 (by omega)
  have e2:decide (0≤(posT d s:Int)∧(posT d s:Int)≤(s.length:Int)∧(s.length:Int)≤(s.length:Int))=true:=dT0 (by omega)
  have lm:∀ n:Nat,n≤1000000001→decide ((n+1)*48≤lim)=true:=fun n h=>dT0 (by unfold lim;omega)
  simp only [cond_false,e1,e2,cond_true,tN0,Int.toNat_zero,List.drop_zero,List.nil_append,List.length_nil,Nat.zero_add,List.take_length]
  rw [lm _ (by simp only [List.length_take];omega),lm _ (by simp only [List.length_take,List.length_cons,List.length_nil];omega),lm _ (by simp only [List.length_append,List.length_take,List.length_drop,List.length_cons,List.length_nil];omega),ZI9 _ _ _ hf]
  simp only [cond_true,List.append_assoc,List.singleton_append]
 ·obtain ⟨x,hx,hk⟩:=Ztv d s hf
  simp only [cond_true,dT0 (show (0:Int)≤(posT d s:Int) by omega),tN0,hx,Zb,Zz,JP]
  rw [ZJa _ _ _ x hf hx]
  rfl
theorem ZhF {σ α Y:Type} {f:Nat→σ→α→Option (σ⊕Y)} {fin:σ→Option Y} {g:σ→α→σ} (ok:σ→List α→Prop) (h:∀ j s d r,ok s (d::r)→f j s d=some (.inl (g s d))∧ok (g s d) r) :
  ∀ (r:List α) (j:Nat) (s:σ),ok s r→Zp f fin j r s=fin (r.foldl g s)
 | [],_,_,_=>rfl
 | d::r,j,s,hs=>by
  obtain ⟨h1,h2⟩:=h j s d r hs
  rw [Qq h1,ZhF ok h r (j+1) (g s d) h2];rfl
theorem ZIe (l es:List En) (hs:srt l) (hn:l.length+es.length≤1000000000):ZyQ l es=some (addT Zg l es):=by
 unfold ZyQ
 simp only [List.nil_append,List.length_nil,Nat.zero_add]
 rw [show decide ((l.length+1)*48≤lim)=true from dT0 (by unfold lim;omega),ZJQ es l (by omega)]
 unfold Zop
 rw [ZhF (g:=stpT Zg) (fun s r=>srt s∧s.length+r.length≤1000000000) (fun j s d r h=>⟨Z1f es j s d h.1 (by have:=h.2;rw [List.length_cons] at this;omega),ZD9 h.1,by
  have:=h.2;have:=ZD8 Zg s d;rw [List.length_cons] at *;omega⟩) es 0 l ⟨hs,hn⟩]
 rfl
theorem Zne (l es:List En) (hn:l.length+es.length≤1000000000):Zcp l es=some (addT rJoin l es):=by
 unfold Zcp
 simp only [List.nil_append,List.length_nil,Nat.zero_add]
 rw [show decide ((l.length+1)*48≤lim)=true from dT0 (by unfold lim;omega),ZrT es l (by omega)]
 unfold Zf4
 rw [ZhF (g:=stpT rJoin) (fun s r=>s.length+r.length≤1000000000) (fun j s d r h=>⟨Z0j es j s d (by rw [List.length_cons] at h;omega),by
  have:=ZD8 rJoin s d;rw [List.length_cons] at *;omega⟩) es 0 l hn]
 rfl
theorem ZXR (z x y:I) (L:List Int):∀ (l:List Int) (j:Nat) (s:I),Zp (fun i s d=>YV x.1 x.2 y.1 y.2 z.1 z.2 L i s.1 s.2 d) (fun s=>ZkA x.1 x.2 y.1 y.2 z.1 z.2 L s.1 s.2) j l s =
  some ((l.foldl (fun s d=>if fitB d then (if d≤z.1 then mx s.1 d else s.1,if d≥z.2 then mn s.2 d else s.2) else (s.1,s.2)) s).1,(l.foldl (fun s d=>if fitB d then (if d≤z.1 then mx s.1 d else s.1,if d≥z.2 then mn s.2 d else s.2) else (s.1,s.2)) s).2,x.1,x.2,y.1,y.2,z.1,z.2)
 | [],j,s=>rfl
 | d::r,j,s=>by
  have h:YV x.1 x.2 y.1 y.2 z.1 z.2 L j s.1 s.2 d=some (.inl (if fitB d then (if d≤z.1 then mx s.1 d else s.1,if d≥z.2 then mn s.2 d else s.2) else (s.1,s.2))):=by
   unfold YV Zg9
   simp only [ZKx,Zb,ZfD,ZfC]
   cases fitB d
   ·rfl
   ·by_cases h1:d≤z.1<;>by_cases h2:d≥z.2<;>simp [h1,h2]
  rw [Qq h,ZXR z x y L r (j+1)]
  rfl
theorem ZKw (x y:I) (l:List Int) (hl:l.length<9223372036854775807):ZzG x y l=some (widV x y l):=by
 unfold ZzG widV
 rw [show decide (y.1>y.2)=Zd y from rfl,show decide (x.1>x.2)=Zd x from rfl]
 cases hy:Zd y
 ·cases hx:Zd x
  ·simp only [cond_false,Bool.false_eq_true,if_false,ZM,WF,Zb]
   have h:=ZDE x.1 x.2 0 0 (Zg x y).1 (Zg x y).2 l aa hl
   have h2:=ZXR (Zg x y) x (0,0) l l 0 aa
   have e:Zbi (-2147483648,2147483647,l,(l.length:Int),0,x.1,x.2,0,0,Zg x y)=_:=h.trans h2
   rw [e]
   simp only [Zb]
   unfold widS
   generalize List.foldl _ aa l=w
   by_cases h1:(Zg x y).1<x.1<;>by_cases h2:(Zg x y).2>x.2<;>simp [h1,h2]
  ·rfl
 ·rfl
theorem ZTv (z x y:I) (L:List Int):∀ (l:List Int) (j:Nat) (s:I),Zp (fun i s d=>K4 x.1 x.2 y.1 y.2 z.1 z.2 L i s.1 s.2 d) (fun s=>Zjs x.1 x.2 y.1 y.2 z.1 z.2 L s.1 s.2) j l s =
  some ((l.foldl (fun s d=>(if d≤z.1∧d>s.1 then d else s.1,if d≥z.2∧d<s.2 then d else s.2)) s).1,(l.foldl (fun s d=>(if d≤z.1∧d>s.1 then d else s.1,if d≥z.2∧d<s.2 then d else s.2)) s).2,x.1,x.2,y.1,y.2,z.1,z.2)
 | [],j,s=>rfl
 | d::r,j,s=>by
  have h:K4 x.1 x.2 y.1 y.2 z.1 z.2 L j s.1 s.2 d=some (.inl (if d≤z.1∧d>s.1 then d else s.1,if d≥z.2∧d<s.2 then d else s.2)):=by
   unfold K4
   by_cases h1:d≤z.1<;>by_cases h2:d>s.1<;>by_cases h3:d≥z.2<;>by_cases h4:d<s.2<;>simp [h1,h2,h3,h4]
  rw [Qq h,ZTv z x y L r (j+1)]
  rfl
theorem ZIb (x y:I) (l:List Int) (hl:l.length<9223372036854775807):Zw1 x y l=some (rwidV x y l):=by
 unfold Zw1 rwidV
 rw [show decide (y.1>y.2)=Zd y from rfl,show decide (x.1>x.2)=Zd x from rfl]
 cases hy:Zd y
 ·cases hx:Zd x
  ·simp only [cond_false,Bool.false_eq_true,if_false,Zz,JP,Zb]
   have h:=ZBk x.1 x.2 0 0 (rJoin x y).1 (rJoin x y).2 l aa hl
   have h2:=ZTv (rJoin x y) x (0,0) l l 0 aa
   have e:WM (l,-2147483648,2147483647,0,x.1,x.2,0,0,rJoin x y)=_:=h.trans h2
   rw [e]
   simp only [Zb]
   unfold rwidS
   generalize List.foldl _ aa l=w
   by_cases h1:(rJoin x y).1<x.1<;>by_cases h2:(rJoin x y).2>x.2<;>simp [h1,h2]
  ·rfl
 ·rfl
def widF (st:List Int) (o n:I):I:=widV o n st
def isClo (k f:Nat) (args:List AV):Bool:=match args[k]? with
 | some (.clo g _ _)=>Nat.beq g f
 | _=>false
def ZX3:List Sh:=[.dat (.sl tI),.dat (.int .i64)]
def Z0A:List Con:=[⟨110,Yp,HW⟩]
def ZLk (a0:List I) (a1:Int):Option I:=bif decide (a1≥(a0.length:Int)) then some (1,0) else bif decide (0≤a1) then Za a0[a1.toNat]? none fun d3=>some (d3.1,d3.2) else none
def Zfl (x:(List I)×(Int×Unit)):Option I:=ZLk x.1 x.2.1
def ZvY:=conP true ZX3 (.dat tI) Zfl
theorem ZD0:Zf Tryz.prog 127 ZvY:=Ze (calU Z0A [] 40 1048576 8 127) true (by rfl) (by rfl) (fun x r e=>(Zk _ _ _ _ _ _ _).trans ((show _=Zfl x by kernel_rfl).trans e)) (.inl rfl)
def ZND:List Sh:=[.dat (.sl tI),.dat (.sl tI),.clo 158 [] []]
def ZlS:Nat→List Nat:=fun c=>bif c.beq 0 then [0,1,2,7,10,11] else [7]
def ZFa:List Con:=[⟨127,ZvY,ZD0⟩,⟨111,HU,W4⟩]
def ZeN:StS:=⟨[(0,.sl tI),(1,.sl tI),(2,.clo 158 [] []),(7,.row 0),(10,.int .i64),(11,.int .i64)],[(0,.row tI)],1⟩
def H6:StS:=⟨[(7,.row 0)],[(0,.row tI)],1⟩
abbrev YI:=((List I)×(List I)×Int×Int×(List I))
def ZAD:StD ZeN→YI:=fun ((a,b,(_,_),_,c,d,_),(e,_))=>(a,b,c,d,e)
def ZB4:YI→StD ZeN:=fun (a,b,c,d,e)=>((a,b,((),()),(),c,d,()),(e,()))
abbrev QX:=(List I)
def ZUm (d:StD H6):QX:=(d.2.1)
def ZgN (x:QX):StD H6:=(((),()),(x,()))
def VQ (s0 s1:List I) (s10 s11:Int) (b0:List I):Option (((List I)×(List I)×Int×Int×(List I))⊕(List I)):=bif decide (s11<s10) then bif decide (0≤s11) then Za s0[s11.toNat]? none fun d7=>Za (Zfl (s1,s11,())) none fun d8=>Za (ZM ([d7,d8],())) none fun d9=>bif decide ((b0.length+[d9].length+1)*16≤lim) then some (.inl (s0,s1,s10,IntKind.i64.wrap (s11+1),b0++[d9])) else none else none else some (.inr b0)
def ZpK:YI→Option (YI⊕QX):=fun (a,b,c,d,e)=>VQ a b c d e
def Zea (x:YI):Option QX:=Zh ZpK Zl x
def Zt3:Nat→Tm→Prog (Nat×Tm):=(varP 0 (fun T h=>(rdS ZeN T h).map ZAD) Zea (altE 2 H6 ZgN) (fun _ _=>.fail))
def ZFY:Lpc:=⟨191,0,28,(ownP [] [(7,tI)] (ZlS 0) (fun base T=>.norm base (ZlS 0) T (Zt3 base))),by kernel_rfl,by kernel_rfl,(Ja (loopU ZFa [] 40 1048576 8 (keep:=ZlS) (q:=Zt3) (by kernel_rfl) (Zv (s:=ZeN) (un:=ZB4) (by rfl) (fun _=>rfl) (Zn (s:=H6) (un:=ZgN) (flat:=ZUm) (by rfl) (fun _=>rfl)) (step:=ZpK) (fun _=>by kernel_rfl) (fun _ _ e=>⟨_,e⟩) (Zm 2 H6 ZgN) (ZB.fail _ _))))⟩
def ZwU (a0 a1:List I):Option (List I):=Za (Zea (a0,a1,(a0.length:Int),0,[])) none fun d4=>some d4
def WG (x:((List I)×((List I)×((Unit×Unit)×Unit)))):Option (List I):=ZwU x.1 x.2.1
def Zsg:=conP true ZND (.dat (.sl tI)) WG
theorem ZBB:Zf Tryz.prog 191 Zsg:=Ze (calU ZFa [ZFY] 40 1048576 8 191) true (by rfl) (by rfl) (fun x r e=>(Zk _ _ _ _ _ _ _).trans ((show _=WG x by kernel_rfl).trans e)) (.inl rfl)
def ZdE (s1 s0:List I) (i:Nat) (b0:List I) (d:I):Option ((List I)⊕QX):=
 Za (Zfl (s1,(i:Int),())) (none) fun d8=>
  Za (ZM ([d,d8],())) (none) fun d9=>
  bif decide ((b0.length+[d9].length+1)*16≤lim) then
  some (.inl (b0++[d9]))
 else none
def Zjn (s1 s0 b0:List I):Option QX:=
 some b0
abbrev ZBr (s1 s0:List I) (i:Nat) (s:List I):YI:=(s0,s1,(s0.length:Int),(i:Int),s)
def ZjC (s1 s0 s:List I):Option QX:=Zp (fun i s d=>ZdE s1 s0 i s d) (fun s=>Zjn s1 s0 s) 0 s0 s
theorem ZBf (s1 s0 s:List I) (hl:s0.length<9223372036854775807):Zea (s0,s1,(s0.length:Int),0,s)=ZjC s1 s0 s:=by
 unfold Zea ZjC
 refine Zs s0 (ZBr s1 s0) _ _ ?_ ?_ s (by unfold Zl;omega)
 ·intro i s d hi hd
  have e1:decide ((i:Int)<(s0.length:Int))=true:=dT0 (by omega)
  have e2:decide (0≤(i:Int))=true:=dT0 (by omega)
  have e3:Int.toNat (i:Int)=i:=tN0 i
  have e4:=Zq hi (Nat.le_of_lt hl)
  show VQ (s0) (s1) ((s0.length:Int)) ((i:Int)) (s)=upd _ (ZdE s1 s0 i s d)
  unfold VQ ZdE
  simp only [e1,e2,e3,e4,hd,cond_true,cond_false,Zb,ZC,ZF,ZD,ZI,ZJ,ZE]
 ·intro s
  have e1:decide ((s0.length:Int)<(s0.length:Int))=false:=dF0 (by omega)
  show VQ (s0) (s1) ((s0.length:Int)) ((s0.length:Int)) (s)=_
  unfold VQ Zjn
  rw [e1]
  rfl
def ZNE:List Sh:=[.dat (.sl tI),.dat (.sl tI),.clo 159 [] [.view [.sln (.int .i64)] 0]]
def ZlT:Nat→List Nat:=fun c=>bif c.beq 0 then [0,1,2,7,10,11] else [7]
def ZFb:List Con:=[⟨127,ZvY,ZD0⟩,⟨109,ZoU,ZuP⟩]
def ZeO:StS:=⟨[(0,.sl tI),(1,.sl tI),(2,.clo 159 [] [.view [.sl (.int .i64)] 0]),(7,.row 0),(10,.int .i64),(11,.int .i64)],[(0,.row tI)],1⟩
def H7:StS:=⟨[(7,.row 0)],[(0,.row tI)],1⟩
abbrev YJ:=((List I)×(List I)×(List Int)×Int×Int×(List I))
def ZAE:StD ZeO→YJ:=fun ((a,b,(_,((c,_),_)),_,d,e,_),(f,_))=>(a,b,c,d,e,f)
def ZB5:YJ→StD ZeO:=fun (a,b,c,d,e,f)=>((a,b,((),((c,()),())),(),d,e,()),(f,()))
abbrev QY:=(List I)
def ZUn (d:StD H7):QY:=(d.2.1)
def ZgO (x:QY):StD H7:=(((),()),(x,()))
def VR (s0 s1:List I) (s2:List Int) (s10 s11:Int) (b0:List I):Option (((List I)×(List I)×(List Int)×Int×Int×(List I))⊕(List I)):=bif decide (s11<s10) then bif decide (0≤s11) then Za s0[s11.toNat]? none fun d8=>Za (Zfl (s1,s11,())) none fun d9=>Za (Ze8 (d8,d9,s2,())) none fun d10=>bif decide ((b0.length+[d10].length+1)*16≤lim) then some (.inl (s0,s1,s2,s10,IntKind.i64.wrap (s11+1),b0++[d10])) else none else none else some (.inr b0)
def ZpL:YJ→Option (YJ⊕QY):=fun (a,b,c,d,e,f)=>VR a b c d e f
def Zeb (x:YJ):Option QY:=Zh ZpL Zl x
def Zt4:Nat→Tm→Prog (Nat×Tm):=(varP 0 (fun T h=>(rdS ZeO T h).map ZAE) Zeb (altE 2 H7 ZgO) (fun _ _=>.fail))
def ZFZ:Lpc:=⟨191,0,28,(ownP [] [(7,tI)] (ZlT 0) (fun base T=>.norm base (ZlT 0) T (Zt4 base))),by kernel_rfl,by kernel_rfl,(Ja (loopU ZFb [] 40 1048576 8 (keep:=ZlT) (q:=Zt4) (by kernel_rfl) (Zv (s:=ZeO) (un:=ZB5) (by rfl) (fun _=>rfl) (Zn (s:=H7) (un:=ZgO) (flat:=ZUn) (by rfl) (fun _=>rfl)) (step:=ZpL) (fun _=>by kernel_rfl) (fun _ _ e=>⟨_,e⟩) (Zm 2 H7 ZgO) (ZB.fail _ _))))⟩
def ZwV (a0 a1:List I) (a2:List Int):Option (List I):=Za (Zeb (a0,a1,a2,(a0.length:Int),0,[])) none fun d5=>some d5
def Zjh (x:((List I)×((List I)×((Unit×(((List Int)×Unit)×Unit))×Unit)))):Option (List I):=ZwV x.1 x.2.1 x.2.2.1.2.1.1
def Zsh:=conR false ZNE tI Zjh
theorem ZBC:Zf Tryz.prog 191 Zsh:=ZhA (calU ZFb [ZFZ] 40 1048576 8 191) false (by rfl) (fun x r e=>(Zpp _ _ _ _ _ _ _).trans ((show _=Zjh x by kernel_rfl).trans e)) (.inr (by rfl))
def ZdF (s1:List I) (s2:List Int) (s0:List I) (i:Nat) (b0:List I) (d:I):Option ((List I)⊕QY):=
 Za (Zfl (s1,(i:Int),())) (none) fun d9=>
  Za (Ze8 (d,d9,s2,())) (none) fun d10=>
  bif decide ((b0.length+[d10].length+1)*16≤lim) then
  some (.inl (b0++[d10]))
 else none
def Zjo (s1:List I) (s2:List Int) (s0 b0:List I):Option QY:=
 some b0
abbrev ZBs (s1:List I) (s2:List Int) (s0:List I) (i:Nat) (s:List I):YJ:=(s0,s1,s2,(s0.length:Int),(i:Int),s)
def ZjD (s1:List I) (s2:List Int) (s0 s:List I):Option QY:=Zp (fun i s d=>ZdF s1 s2 s0 i s d) (fun s=>Zjo s1 s2 s0 s) 0 s0 s
theorem ZBg (s1:List I) (s2:List Int) (s0 s:List I) (hl:s0.length<9223372036854775807):Zeb (s0,s1,s2,(s0.length:Int),0,s)=ZjD s1 s2 s0 s:=by
 unfold Zeb ZjD
 refine Zs s0 (ZBs s1 s2 s0) _ _ ?_ ?_ s (by unfold Zl;omega)
 ·intro i s d hi hd
  have e1:decide ((i:Int)<(s0.length:Int))=true:=dT0 (by omega)
  have e2:decide (0≤(i:Int))=true:=dT0 (by omega)
  have e3:Int.toNat (i:Int)=i:=tN0 i
  have e4:=Zq hi (Nat.le_of_lt hl)
  show VR (s0) (s1) (s2) ((s0.length:Int)) ((i:Int)) (s)=upd _ (ZdF s1 s2 s0 i s d)
  unfold VR ZdF
  simp only [e1,e2,e3,e4,hd,cond_true,cond_false,Zb,ZC,ZF,ZD,ZI,ZJ,ZE]
 ·intro s
  have e1:decide ((s0.length:Int)<(s0.length:Int))=false:=dF0 (by omega)
  show VR (s0) (s1) (s2) ((s0.length:Int)) ((s0.length:Int)) (s)=_
  unfold VR Zjo
  rw [e1]
  rfl
abbrev K1:=((List I)×(List I)×Int×(List I))
abbrev QK:=(List I)
def H0 (s0 s1:List I) (s6:Int) (b0:List I):Option (((List I)×(List I)×Int×(List I))⊕(List I)):=bif decide (s6<(s0.length:Int)) then bif decide (0≤s6) then Za s0[s6.toNat]? none fun d6=>Za (YB (s1,s6,())) none fun d7=>Za (Zz (d6,d7,())) none fun d8=>bif decide ((b0.length+[d8].length+1)*16≤lim) then some (.inl (s0,s1,IntKind.i64.wrap (s6+1),b0++[d8])) else none else none else some (.inr b0)
def ZoK:K1→Option (K1⊕QK):=fun (a,b,c,d)=>H0 a b c d
def Zdm (x:K1):Option QK:=Zh ZoK Zl x
def ZuG (a0 a1:List I):Option (List I):=Za (Zdm (a0,a1,0,[])) none fun d4=>some d4
def Zg1 (x:((List I)×((List I)×Unit))):Option (List I):=ZuG x.1 x.2.1
def Zcm (s1 s0:List I) (i:Nat) (b0:List I) (d:I):Option ((List I)⊕QK):=
 Za (YB (s1,(i:Int),())) (none) fun d7=>
  Za (Zz (d,d7,())) (none) fun d8=>
  bif decide ((b0.length+[d8].length+1)*16≤lim) then
  some (.inl (b0++[d8]))
 else none
def Zij (s1 s0 b0:List I):Option QK:=
 some b0
abbrev Zz3 (s1 s0:List I) (i:Nat) (s:List I):K1:=(s0,s1,(i:Int),s)
def Zin (s1 s0 s:List I):Option QK:=Zp (fun i s d=>Zcm s1 s0 i s d) (fun s=>Zij s1 s0 s) 0 s0 s
theorem ZzZ (s1 s0 s:List I) (hl:s0.length<9223372036854775807):Zdm (s0,s1,0,s)=Zin s1 s0 s:=by
 unfold Zdm Zin
 refine Zs s0 (Zz3 s1 s0) _ _ ?_ ?_ s (by unfold Zl;omega)
 ·intro i s d hi hd
  have e1:decide ((i:Int)<(s0.length:Int))=true:=dT0 (by omega)
  have e2:decide (0≤(i:Int))=true:=dT0 (by omega)
  have e3:Int.toNat (i:Int)=i:=tN0 i
  have e4:=Zq hi (Nat.le_of_lt hl)
  show H0 (s0) (s1) ((i:Int)) (s)=upd _ (Zcm s1 s0 i s d)
  unfold H0 Zcm
  simp only [e1,e2,e3,e4,hd,cond_true,cond_false,Zb,ZC,ZF,ZD,ZI,ZJ,ZE]
 ·intro s
  have e1:decide ((s0.length:Int)<(s0.length:Int))=false:=dF0 (by omega)
  show H0 (s0) (s1) ((s0.length:Int)) (s)=_
  unfold H0 Zij
  rw [e1]
  rfl
abbrev KC:=((List I)×(List I)×(List Int)×Int×(List I))
abbrev Qv:=(List I)
def Y5 (s0 s1:List I) (s2:List Int) (s8:Int) (b0:List I):Option (((List I)×(List I)×(List Int)×Int×(List I))⊕(List I)):=bif decide (s8<(s0.length:Int)) then bif decide (0≤s8) then Za s0[s8.toNat]? none fun d7=>Za (YB (s1,s8,())) none fun d8=>Za (Zfq (d7,d8,s2,())) none fun d9=>bif decide ((b0.length+[d9].length+1)*16≤lim) then some (.inl (s0,s1,s2,IntKind.i64.wrap (s8+1),b0++[d9])) else none else none else some (.inr b0)
def ZnZ:KC→Option (KC⊕Qv):=fun (a,b,c,d,e)=>Y5 a b c d e
def Zcg (x:KC):Option Qv:=Zh ZnZ Zl x
def Zsy (a0 a1:List I) (a2:List Int):Option (List I):=Za (Zcg (a0,a1,a2,0,[])) none fun d5=>some d5
def Zfg (x:((List I)×((List I)×((List Int)×Unit)))):Option (List I):=Zsy x.1 x.2.1 x.2.2.1
def Zbd (s1:List I) (s2:List Int) (s0:List I) (i:Nat) (b0:List I) (d:I):Option ((List I)⊕Qv):=
 Za (YB (s1,(i:Int),())) (none) fun d8=>
  Za (Zfq (d,d8,s2,())) (none) fun d9=>
  bif decide ((b0.length+[d9].length+1)*16≤lim) then
  some (.inl (b0++[d9]))
 else none
def ZgB (s1:List I) (s2:List Int) (s0 b0:List I):Option Qv:=
 some b0
abbrev Zys (s1:List I) (s2:List Int) (s0:List I) (i:Nat) (s:List I):KC:=(s0,s1,s2,(i:Int),s)
def ZgG (s1:List I) (s2:List Int) (s0 s:List I):Option Qv:=Zp (fun i s d=>Zbd s1 s2 s0 i s d) (fun s=>ZgB s1 s2 s0 s) 0 s0 s
theorem Zyo (s1:List I) (s2:List Int) (s0 s:List I) (hl:s0.length<9223372036854775807):Zcg (s0,s1,s2,0,s)=ZgG s1 s2 s0 s:=by
 unfold Zcg ZgG
 refine Zs s0 (Zys s1 s2 s0) _ _ ?_ ?_ s (by unfold Zl;omega)
 ·intro i s d hi hd
  have e1:decide ((i:Int)<(s0.length:Int))=true:=dT0 (by omega)
  have e2:decide (0≤(i:Int))=true:=dT0 (by omega)
  have e3:Int.toNat (i:Int)=i:=tN0 i
  have e4:=Zq hi (Nat.le_of_lt hl)
  show Y5 (s0) (s1) (s2) ((i:Int)) (s)=upd _ (Zbd s1 s2 s0 i s d)
  unfold Y5 Zbd
  simp only [e1,e2,e3,e4,hd,cond_true,cond_false,Zb,ZC,ZF,ZD,ZI,ZJ,ZE]
 ·intro s
  have e1:decide ((s0.length:Int)<(s0.length:Int))=false:=dF0 (by omega)
  show Y5 (s0) (s1) (s2) ((s0.length:Int)) (s)=_
  unfold Y5 ZgB
  rw [e1]
  rfl
def rowAt (b:List I) (i:Nat):I:=(b[i]?).getD nn
def zipI (f:I→I→I) (a b:List I):List I:=a.mapIdx fun i d=>f d (rowAt b i)
theorem ZLB (b:List I) (i:Nat):ZLk b (i:Int)=some (rowAt b i):=by
 unfold ZLk rowAt
 by_cases h:i<b.length
 ·rw [dF0 (by omega),dT0 (by omega)]
  simp only [cond_false,cond_true,tN0,List.getElem?_eq_getElem h,Zb]
  rfl
 ·have e:b[i]? = none:=List.getElem?_eq_none (by omega)
  rw [dT0 (by omega),e];rfl
theorem ZzV (b:List I) (i:Nat):Ztb b (i:Int)=some (rowAt b i):=by
 unfold Ztb rowAt
 by_cases h:i<b.length
 ·rw [dT0 (by omega),dT0 (by omega)]
  simp only [cond_true,tN0,List.getElem?_eq_getElem h,Zb]
  rfl
 ·have e:b[i]? = none:=List.getElem?_eq_none (by omega)
  rw [dF0 (by omega),e];rfl
theorem Zuu {Y:Type} {f:Nat→List I→I→Option (List I⊕Y)} {fin:List I→Option Y} {F:I→I→I} {b:List I} (h:∀ j s d,s.length≤1000→f j s d=some (.inl (s++[F d (rowAt b j)]))) :
  ∀ (l:List I) (j:Nat) (s:List I),s.length+l.length≤1000→Zp f fin j l s=fin (s++l.mapIdx fun i d=>F d (rowAt b (j+i)))
 | [],j,s,_=>by simp [Zp]
 | d::r,j,s,hs=>by
  rw [List.length_cons] at hs
  rw [Qq (h j s d (by omega)),Zuu h r (j+1) (s++[F d (rowAt b j)]) (by rw [List.length_append];simp;omega),List.mapIdx_cons,List.append_assoc]
  simp only [List.singleton_append,Nat.add_zero]
  congr 4
  funext i d
  rw [show j+1+i=j+(i+1) by omega]
theorem ZH2 {n:Nat} (h:n≤1000):decide ((n+1+1)*16≤lim)=true:=dT0 (by unfold lim;omega)
theorem Zxe (a b:List I) (ha:a.length≤1000):ZwU a b=some (zipI Zg a b):=by
 unfold ZwU
 rw [ZBf b a [] (by omega)]
 unfold ZjC
 rw [Zuu (F:=Zg) (b:=b) (fun j s d hs=>?_) a 0 [] (by simpa using ha)]
 ·simp only [Zjn,Zb,List.nil_append,Nat.zero_add];rfl
 ·unfold ZdE Zfl ZM
  simp only [ZLB,WF,Zb,List.length_cons,List.length_nil,Nat.zero_add,ZH2 hs,cond_true]
theorem ZuL (a b:List I) (ha:a.length≤1000):ZuG a b=some (zipI rJoin a b):=by
 unfold ZuG
 rw [ZzZ b a [] (by omega)]
 unfold Zin
 rw [Zuu (F:=rJoin) (b:=b) (fun j s d hs=>?_) a 0 [] (by simpa using ha)]
 ·simp only [Zij,Zb,List.nil_append,Nat.zero_add];rfl
 ·unfold Zcm YB Zz
  simp only [ZzV,JP,Zb,List.length_cons,List.length_nil,Nat.zero_add,ZH2 hs,cond_true]
theorem Zxf (a b:List I) (st:List Int) (hst:st.length<9223372036854775807) (ha:a.length≤1000):ZwV a b st=some (zipI (widF st) a b):=by
 unfold ZwV
 rw [ZBg b st a [] (by omega)]
 unfold ZjD
 rw [Zuu (F:=widF st) (b:=b) (fun j s d hs=>?_) a 0 [] (by simpa using ha)]
 ·simp only [Zjo,Zb,List.nil_append,Nat.zero_add];rfl
 ·unfold ZdF Zfl Ze8
  simp only [ZLB,ZKw _ _ _ hst,Zb,List.length_cons,List.length_nil,Nat.zero_add,ZH2 hs,cond_true]
  rfl
def rwidF (st:List Int) (o n:I):I:=rwidV o n st
theorem ZsI (a b:List I) (st:List Int) (hst:st.length<9223372036854775807) (ha:a.length≤1000):Zsy a b st=some (zipI (rwidF st) a b):=by
 unfold Zsy
 rw [Zyo b st a [] (by omega)]
 unfold ZgG
 rw [Zuu (F:=rwidF st) (b:=b) (fun j s d hs=>?_) a 0 [] (by simpa using ha)]
 ·simp only [ZgB,Zb,List.nil_append,Nat.zero_add];rfl
 ·unfold Zbd YB Zfq
  simp only [ZzV,ZIb _ _ _ hst,Zb,List.length_cons,List.length_nil,Nat.zero_add,ZH2 hs,cond_true]
  rfl
theorem ZUf {F G:I→I→I} {a b:List I} (h:∀ x y,isB x=true→isB y=true→F x y=G x y) (ha:∀ x∈a,isB x=true) (hb:∀ x∈b,isB x=true):zipI F a b=zipI G a b:=by
 unfold zipI
 apply List.ext_getElem?
 intro i
 simp only [List.getElem?_mapIdx]
 cases e:a[i]? with
 | none=>rfl
 | some d=>
  simp only [Option.map_some]
  rw [h d _ (ha d (mG0 e))]
  unfold rowAt
  cases e2:b[i]? with
  | none=>rfl
  | some y=>exact hb y (mG0 e2)
theorem Zww (F:I→I→I) (a b:List I):(zipI F a b).length=a.length:=by simp [zipI]
theorem ZUg {F:I→I→I} (h:∀ x y,isB x=true∧Zd x=false→isB y=true→isB (F x y)=true∧Zd (F x y)=false) {a b:List I} (ha:∀ x∈a,isB x=true∧Zd x=false) (hb:∀ x∈b,isB x=true) :
  ∀ x∈zipI F a b,isB x=true∧Zd x=false:=fun x hx=>by
 unfold zipI at hx
 rw [List.mem_mapIdx] at hx
 obtain ⟨i,hi,rfl⟩:=hx
 refine h _ _ (ha _ (List.getElem_mem hi)) ?_
 unfold rowAt
 cases e2:b[i]? with
 | none=>rfl
 | some y=>exact hb y (mG0 e2)
def ZNC:List Sh:=[.dat tE]
def ZQ4:List Con:=[⟨173,ZeB,Zk5⟩]
def ZwT (a0:E):Option E:=bif decide (((List.length (α:=I) [])+List.length a0.2.1+1)*16≤lim) then bif decide (((List.length (α:=I) [])+List.length a0.2.2.1+1)*16≤lim) then bif decide (((List.length (α:=I) [])+List.length a0.2.2.2.1+1)*16≤lim) then some (a0.1,[]++a0.2.1,[]++a0.2.2.1,[]++a0.2.2.2.1,a0.2.2.2.2.1,a0.2.2.2.2.2) else none else none else none
def ZmI (x:E×Unit):Option E:=ZwT x.1
def ZAn:=conP true ZNC (.dat tE) ZmI
theorem ZOG:Zf Tryz.prog 156 ZAn:=Ze (calU ZQ4 [] 40 1048576 8 156) true (by rfl) (by rfl) (fun x r e=>(Zk _ _ _ _ _ _ _).trans ((show _=ZmI x by kernel_rfl).trans e)) (.inl rfl)
def ZQj:List Sh:=[.dat (.sl (.int .i64))]
def ZtE:Nat→List Nat:=fun c=>bif c.beq 0 then [3,13,14,15] else [3]
def ZIB:List Con:=[]
def Zf9:StS:=⟨[(3,.int .i64),(13,.sl (.int .i64)),(14,.int .i64),(15,.int .i64)],[],0⟩
def V6:StS:=⟨[(3,.int .i64)],[],0⟩
abbrev Zbq:=(Int×(List Int)×Int×Int)
def ZCw:StD Zf9→Zbq:=fun ((a,b,c,d,_),_)=>(a,b,c,d)
def ZEg:Zbq→StD Zf9:=fun (a,b,c,d)=>((a,b,c,d,()),())
abbrev Zdp:=Int
def ZUU (d:StD V6):Zdp:=(d.1.1)
def Ziv (x:Zdp):StD V6:=((x,()),())
def ZD5 (s3:Int) (s13:List Int) (s14 s15:Int):Option ((Int×(List Int)×Int×Int)⊕Int):=bif decide (s15<s14) then bif decide (0≤s15) then Za s13[s15.toNat]? none fun d6=>some (.inl (IntKind.i64.wrap (↑(BitVec.ofInt IntKind.i64.bits s3 &&& BitVec.ofInt IntKind.i64.bits d6).toNat:Int),s13,s14,IntKind.i64.wrap (s15+1))) else none else some (.inr s3)
def Zq6:Zbq→Option (Zbq⊕Zdp):=fun (a,b,c,d)=>ZD5 a b c d
def Zrw (x:Zbq):Option Zdp:=Zh Zq6 Zl x
def Zvm:Nat→Tm→Prog (Nat×Tm):=(varP 0 (fun T h=>(rdS Zf9 T h).map ZCw) Zrw (altE 2 V6 Ziv) (fun _ _=>.fail))
def ZHO:Lpc:=⟨128,0,24,(fun base T=>.norm base (ZtE 0) T (Zvm base)),by kernel_rfl,by kernel_rfl,(loopU ZIB [] 40 1048576 8 (keep:=ZtE) (q:=Zvm) (by kernel_rfl) (Zv (s:=Zf9) (un:=ZEg) (by rfl) (fun _=>rfl) (Zn (s:=V6) (un:=Ziv) (flat:=ZUU) (by rfl) (fun _=>rfl)) (step:=Zq6) (fun _=>by kernel_rfl) (fun _ _ e=>⟨_,e⟩) (Zm 2 V6 Ziv) (ZB.fail _ _)))⟩
def ZVq (a0:List Int):Option Int:=bif (a0.length:Int)==0 then some 0 else Za a0[Int.toNat (0:Int)]? none fun d3=>bif decide ((0:Int)≤1∧1≤(a0.length:Int)∧(a0.length:Int)≤(a0.length:Int)) then Za (Zrw (d3,List.drop (Int.toNat 1) (List.take (a0.length:Int).toNat a0),(↑(List.drop (Int.toNat 1) (List.take (a0.length:Int).toNat a0)).length:Int),0)) none fun d4=>some d4 else none
def ZKb (x:(List Int)×Unit):Option Int:=ZVq x.1
def ZoS:=conP true ZQj (.dat (.int .i64)) ZKb
theorem ZuN:Zf Tryz.prog 128 ZoS:=Ze (calU ZIB [ZHO] 40 1048576 8 128) true (by rfl) (by rfl) (fun x r e=>(Zk _ _ _ _ _ _ _).trans ((show _=ZKb x by kernel_rfl).trans e)) (.inl rfl)
def ZQh:List Sh:=[.dat (.sl (.int .i64))]
def ZtD:Nat→List Nat:=fun c=>bif c.beq 0 then [3,6,7,8] else [3]
def ZIz:List Con:=[]
def Zf7:StS:=⟨[(3,.int .i64),(6,.sl (.int .i64)),(7,.int .i64),(8,.int .i64)],[],0⟩
def V4:StS:=⟨[(3,.int .i64)],[],0⟩
abbrev Zbo:=(Int×(List Int)×Int×Int)
def ZCu:StD Zf7→Zbo:=fun ((a,b,c,d,_),_)=>(a,b,c,d)
def ZEe:Zbo→StD Zf7:=fun (a,b,c,d)=>((a,b,c,d,()),())
abbrev Zdn:=Int
def ZUS (d:StD V4):Zdn:=(d.1.1)
def Zit (x:Zdn):StD V4:=((x,()),())
def ZD4 (s3:Int) (s6:List Int) (s7 s8:Int):Option ((Int×(List Int)×Int×Int)⊕Int):=bif decide (s8<s7) then bif decide (0≤s8) then Za s6[s8.toNat]? none fun d6=>some (.inl (IntKind.i64.wrap (↑(BitVec.ofInt IntKind.i64.bits s3 ||| BitVec.ofInt IntKind.i64.bits d6).toNat:Int),s6,s7,IntKind.i64.wrap (s8+1))) else none else some (.inr s3)
def Zq5:Zbo→Option (Zbo⊕Zdn):=fun (a,b,c,d)=>ZD4 a b c d
def Zrv (x:Zbo):Option Zdn:=Zh Zq5 Zl x
def Zvk:Nat→Tm→Prog (Nat×Tm):=(varP 0 (fun T h=>(rdS Zf7 T h).map ZCu) Zrv (altE 2 V4 Zit) (fun _ _=>.fail))
def ZHM:Lpc:=⟨192,0,17,(fun base T=>.norm base (ZtD 0) T (Zvk base)),by kernel_rfl,by kernel_rfl,(loopU ZIz [] 40 1048576 8 (keep:=ZtD) (q:=Zvk) (by kernel_rfl) (Zv (s:=Zf7) (un:=ZEe) (by rfl) (fun _=>rfl) (Zn (s:=V4) (un:=Zit) (flat:=ZUS) (by rfl) (fun _=>rfl)) (step:=Zq5) (fun _=>by kernel_rfl) (fun _ _ e=>⟨_,e⟩) (Zm 2 V4 Zit) (ZB.fail _ _)))⟩
def ZVp (a0:List Int):Option Int:=Za (Zrv (0,a0,(a0.length:Int),0)) none fun d3=>some d3
def ZKa (x:(List Int)×Unit):Option Int:=ZVp x.1
def Zux:=conP true ZQh (.dat (.int .i64)) ZKa
theorem ZE4:Zf Tryz.prog 192 Zux:=Ze (calU ZIz [ZHM] 40 1048576 8 192) true (by rfl) (by rfl) (fun x r e=>(Zk _ _ _ _ _ _ _).trans ((show _=ZKa x by kernel_rfl).trans e)) (.inl rfl)
abbrev Zzl:Type:=((List E)×Int×Int×Bool×Int×Int×Bool×(List I)×(List I)×(List I)×Int×Int)
def ZRI:List Sh:=[.dat (.sl tE)]
def Zob:Nat→List Nat:=fun c=>bif c.beq 0 then [2,3,7,8,9] else [2,3]
def ZKK:List Con:=[⟨156,ZAn,ZOG⟩,⟨191,(pickS (isClo 2 158) Zsg Zsh),(Zf.pick (isClo 2 158) ZBB ZBC)⟩,⟨128,ZoS,ZuN⟩,⟨192,Zux,ZE4⟩]
def ZhQ:StS:=⟨[(2,.ptr 0 0),(3,.ptr 1 0),(7,.sl tE),(8,.int .i64),(9,.int .i64)],[(0,.box [.bool,.nil,.nil,.nil,.int .i64,.int .i64]),(1,.box [.bool,.sl tI,.sl tI,.sl tI,.int .i64,.int .i64])],2⟩
def Zaw:StS:=⟨[(2,.ptr 0 0),(3,.ptr 1 0)],[(0,.box [.bool,.nil,.nil,.nil,.int .i64,.int .i64]),(1,.box [.bool,.sl tI,.sl tI,.sl tI,.int .i64,.int .i64])],2⟩
abbrev VC:=Zzl
def ZFC:StD ZhQ→VC:=fun ((_,_,a,b,c,_),((d,_,_,_,e,f,_),(g,h,i,j,k,l,_),_))=>(a,b,c,d,e,f,g,h,i,j,k,l)
def ZGI:VC→StD ZhQ:=fun (a,b,c,d,e,f,g,h,i,j,k,l)=>(((),(),a,b,c,()),((d,(),(),(),e,f,()),(g,h,i,j,k,l,()),()))
abbrev J1:=(Bool×Int×Int×Bool×(List I)×(List I)×(List I)×Int×Int)
def ZWE:StD Zaw→J1:=fun ((_,_,_),((a,_,_,_,b,c,_),(d,e,f,g,h,i,_),_))=>(a,b,c,d,e,f,g,h,i)
def ZjS:J1→StD Zaw:=fun (a,b,c,d,e,f,g,h,i)=>(((),(),()),((a,(),(),(),b,c,()),(d,e,f,g,h,i,()),()))
def ZbG (s7:List E) (s8 s9:Int) (b0:Bool) (b0_1 b0_2:Int) (b1:Bool) (b1_1 b1_2 b1_3:List I) (b1_4 b1_5:Int):Option (Zzl⊕(Bool×Int×Int×Bool×(List I)×(List I)×(List I)×Int×Int)):=bif decide (s9<s8) then bif decide (0≤s9) then Za s7[s9.toNat]? none fun d14=>bif !d14.1 then some (.inl (s7,s8,IntKind.i64.wrap (s9+1),b0,b0_1,b0_2,b1,b1_1,b1_2,b1_3,b1_4,b1_5)) else bif !b1 then Za (ZmI (d14,())) none fun d15=>some (.inl (s7,s8,IntKind.i64.wrap (s9+1),b0,b0_1,b0_2,d15.1,d15.2.1,d15.2.2.1,d15.2.2.2.1,d15.2.2.2.2.1,d15.2.2.2.2.2)) else Za (WG (b1_1,d14.2.1,((),()),())) none fun d15=>Za (WG (b1_2,d14.2.2.1,((),()),())) none fun d16=>Za (WG (b1_3,d14.2.2.2.1,((),()),())) none fun d17=>some (.inl (s7,s8,IntKind.i64.wrap (s9+1),b0,b0_1,b0_2,true,d15,d16,d17,IntKind.i64.wrap (↑(BitVec.ofInt IntKind.i64.bits b1_4 &&& BitVec.ofInt IntKind.i64.bits d14.2.2.2.2.1).toNat:Int),IntKind.i64.wrap (↑(BitVec.ofInt IntKind.i64.bits (IntKind.i64.wrap (↑(BitVec.ofInt IntKind.i64.bits 0 ||| BitVec.ofInt IntKind.i64.bits b1_5).toNat:Int)) ||| BitVec.ofInt IntKind.i64.bits d14.2.2.2.2.2).toNat:Int))) else none else some (.inr (b0,b0_1,b0_2,b1,b1_1,b1_2,b1_3,b1_4,b1_5))
def Zr0:VC→Option (VC⊕J1):=fun (a,b,c,d,e,f,g,h,i,j,k,l)=>ZbG a b c d e f g h i j k l
def Zhg (x:VC):Option J1:=Zh Zr0 Zl x
def Zxp:Nat→Tm→Prog (Nat×Tm):=(varP 0 (fun T h=>(rdS ZhQ T h).map ZFC) Zhg (altE 2 Zaw ZjS) (fun _ _=>.fail))
def ZJz:Lpc:=⟨112,0,28,(unP [(1,[(1,tI)]),(1,[(2,tI)]),(1,[(3,tI)]),(1,[(1,tI)]),(1,[(2,tI)]),(1,[(3,tI)])] [] (Zob 0) (fun base T=>.norm base (Zob 0) T (Zxp base))),by kernel_rfl,by kernel_rfl,(Z2d (loopU ZKK [] 40 1048576 8 (keep:=Zob) (q:=Zxp) (by kernel_rfl) (Zv (s:=ZhQ) (un:=ZGI) (by rfl) (fun _=>rfl) (Zn (s:=Zaw) (un:=ZjS) (flat:=ZWE) (by rfl) (fun _=>rfl)) (step:=Zr0) (fun _=>by kernel_rfl) (fun _ _ e=>⟨_,e⟩) (Zm 2 Zaw ZjS) (ZB.fail _ _))))⟩
def ZCU (a0:List E):Option E:=Za (Zhg (a0,(a0.length:Int),0,false,0,0,false,[],[],[],0,0)) none fun d3=>some (d3.2.2.2.1,d3.2.2.2.2.1,d3.2.2.2.2.2.1,d3.2.2.2.2.2.2.1,d3.2.2.2.2.2.2.2.1,d3.2.2.2.2.2.2.2.2)
def Zko (x:(List E)×Unit):Option E:=ZCU x.1
def ZwD:=conP true ZRI (.dat tE) Zko
theorem ZIr:Zf Tryz.prog 112 ZwD:=Ze (calU ZKK [ZJz] 40 1048576 8 112) true (by rfl) (by rfl) (fun x r e=>(Zk _ _ _ _ _ _ _).trans ((show _=Zko x by kernel_rfl).trans e)) (.inl rfl)
def Zf0 (b0:Bool) (b0_1 b0_2:Int) (s7:List E) (i:Nat) (b1:Bool) (b1_1 b1_2 b1_3:List I) (b1_4 b1_5:Int) (d:E):Option ((Bool×(List I)×(List I)×(List I)×Int×Int)⊕J1):=
 bif !d.1 then
  some (.inl (b1,b1_1,b1_2,b1_3,b1_4,b1_5))
 else bif !b1 then
  Za (ZmI (d,())) (none) fun d15=>
  some (.inl (d15.1,d15.2.1,d15.2.2.1,d15.2.2.2.1,d15.2.2.2.2.1,d15.2.2.2.2.2))
 else Za (WG (b1_1,d.2.1,((),()),())) (none) fun d15=>
  Za (WG (b1_2,d.2.2.1,((),()),())) (none) fun d16=>
  Za (WG (b1_3,d.2.2.2.1,((),()),())) (none) fun d17=>
  some (.inl (true,d15,d16,d17,IntKind.i64.wrap (↑(BitVec.ofInt IntKind.i64.bits b1_4 &&& BitVec.ofInt IntKind.i64.bits d.2.2.2.2.1).toNat:Int),IntKind.i64.wrap (↑(BitVec.ofInt IntKind.i64.bits (IntKind.i64.wrap (↑(BitVec.ofInt IntKind.i64.bits 0 ||| BitVec.ofInt IntKind.i64.bits b1_5).toNat:Int)) ||| BitVec.ofInt IntKind.i64.bits d.2.2.2.2.2).toNat:Int)))
def ZlK (b0:Bool) (b0_1 b0_2:Int) (s7:List E) (b1:Bool) (b1_1 b1_2 b1_3:List I) (b1_4 b1_5:Int):Option J1:=
 some (b0,b0_1,b0_2,b1,b1_1,b1_2,b1_3,b1_4,b1_5)
abbrev ZGm (b0:Bool) (b0_1 b0_2:Int) (s7:List E) (i:Nat) (s:Bool×(List I)×(List I)×(List I)×Int×Int):VC:=(s7,(s7.length:Int),(i:Int),b0,b0_1,b0_2,s.1,s.2.1,s.2.2.1,s.2.2.2.1,s.2.2.2.2.1,s.2.2.2.2.2)
def Zl0 (b0:Bool) (b0_1 b0_2:Int) (s7:List E) (s:Bool×(List I)×(List I)×(List I)×Int×Int):Option J1:=Zp (fun i s d=>Zf0 b0 b0_1 b0_2 s7 i s.1 s.2.1 s.2.2.1 s.2.2.2.1 s.2.2.2.2.1 s.2.2.2.2.2 d) (fun s=>ZlK b0 b0_1 b0_2 s7 s.1 s.2.1 s.2.2.1 s.2.2.2.1 s.2.2.2.2.1 s.2.2.2.2.2) 0 s7 s
theorem ZGa (b0:Bool) (b0_1 b0_2:Int) (s7:List E) (s:Bool×(List I)×(List I)×(List I)×Int×Int) (hl:s7.length<9223372036854775807):Zhg (s7,(s7.length:Int),0,b0,b0_1,b0_2,s.1,s.2.1,s.2.2.1,s.2.2.2.1,s.2.2.2.2.1,s.2.2.2.2.2)=Zl0 b0 b0_1 b0_2 s7 s:=by
 unfold Zhg Zl0
 refine Zs s7 (ZGm b0 b0_1 b0_2 s7) _ _ ?_ ?_ s (by unfold Zl;omega)
 ·intro i s d hi hd
  have e1:decide ((i:Int)<(s7.length:Int))=true:=dT0 (by omega)
  have e2:decide (0≤(i:Int))=true:=dT0 (by omega)
  have e3:Int.toNat (i:Int)=i:=tN0 i
  have e4:=Zq hi (Nat.le_of_lt hl)
  show ZbG (s7) ((s7.length:Int)) ((i:Int)) (b0) (b0_1) (b0_2) (s.1) (s.2.1) (s.2.2.1) (s.2.2.2.1) (s.2.2.2.2.1) (s.2.2.2.2.2)=upd _ (Zf0 b0 b0_1 b0_2 s7 i s.1 s.2.1 s.2.2.1 s.2.2.2.1 s.2.2.2.2.1 s.2.2.2.2.2 d)
  unfold ZbG Zf0
  simp only [e1,e2,e3,e4,hd,cond_true,cond_false,Zb,ZC,ZF,ZD,ZI,ZJ,ZE]
 ·intro s
  have e1:decide ((s7.length:Int)<(s7.length:Int))=false:=dF0 (by omega)
  show ZbG (s7) ((s7.length:Int)) ((s7.length:Int)) (b0) (b0_1) (b0_2) (s.1) (s.2.1) (s.2.2.1) (s.2.2.2.1) (s.2.2.2.2.1) (s.2.2.2.2.2)=_
  unfold ZbG ZlK
  rw [e1]
  rfl
def ZQe:List Sh:=[.dat tE,.dat tE,.dat (.sl (.int .i64))]
def ZTQ:List Con:=[⟨112,ZwD,ZIr⟩,⟨191,(pickS (isClo 2 158) Zsg Zsh),(Zf.pick (isClo 2 158) ZBB ZBC)⟩,⟨128,ZoS,ZuN⟩,⟨192,Zux,ZE4⟩,⟨109,ZoU,ZuP⟩]
def ZzB (a0 a1:E) (a2:List Int):Option E:=bif !a0.1 then Za (Zko ([a1,a0],())) none fun d4=>some (d4.1,d4.2.1,d4.2.2.1,d4.2.2.2.1,d4.2.2.2.2.1,d4.2.2.2.2.2) else bif !a1.1 then Za (Zko ([a1,a0],())) none fun d4=>some (d4.1,d4.2.1,d4.2.2.1,d4.2.2.2.1,d4.2.2.2.2.1,d4.2.2.2.2.2) else Za (Zjh (a0.2.1,a1.2.1,((),(a2,()),()),())) none fun d4=>Za (Zjh (a0.2.2.1,a1.2.2.1,((),(a2,()),()),())) none fun d5=>Za (Zjh (a0.2.2.2.1,a1.2.2.2.1,((),(a2,()),()),())) none fun d6=>some (true,d4,d5,d6,IntKind.i64.wrap (↑(BitVec.ofInt IntKind.i64.bits a0.2.2.2.2.1 &&& BitVec.ofInt IntKind.i64.bits a1.2.2.2.2.1).toNat:Int),IntKind.i64.wrap (↑(BitVec.ofInt IntKind.i64.bits (IntKind.i64.wrap (↑(BitVec.ofInt IntKind.i64.bits 0 ||| BitVec.ofInt IntKind.i64.bits a0.2.2.2.2.2).toNat:Int)) ||| BitVec.ofInt IntKind.i64.bits a1.2.2.2.2.2).toNat:Int))
def ZsX (x:(E×(E×((List Int)×Unit)))):Option E:=ZzB x.1 x.2.1 x.2.2.1
def ZEI:=conP true ZQe (.dat tE) ZsX
theorem ZQQ:Zf Tryz.prog 113 ZEI:=Ze (calU ZTQ [] 40 1048576 8 113) true (by rfl) (by rfl) (fun x r e=>(Zk _ _ _ _ _ _ _).trans ((show _=ZsX x by kernel_rfl).trans e)) (.inl rfl)
def Zqx (a0 a1:E):Option E:=bif !a1.1 then bif !a0.1 then some ((false,[],[],[],0,0):E) else some (a0.1,a0.2.1,a0.2.2.1,a0.2.2.2.1,a0.2.2.2.2.1,a0.2.2.2.2.2) else bif !a0.1 then some (a1.1,a1.2.1,a1.2.2.1,a1.2.2.2.1,a1.2.2.2.2.1,a1.2.2.2.2.2) else Za (Zg1 (a0.2.1,a1.2.1,())) none fun d3=>Za (Zg1 (a0.2.2.1,a1.2.2.1,())) none fun d4=>Za (Zg1 (a0.2.2.2.1,a1.2.2.2.1,())) none fun d5=>some (true,d3,d4,d5,IntKind.i64.wrap (↑(BitVec.ofInt IntKind.i64.bits a0.2.2.2.2.1 &&& BitVec.ofInt IntKind.i64.bits a1.2.2.2.2.1).toNat:Int),IntKind.i64.wrap (↑(BitVec.ofInt IntKind.i64.bits a0.2.2.2.2.2 ||| BitVec.ofInt IntKind.i64.bits a1.2.2.2.2.2).toNat:Int))
def Zfm (x:E×(E×Unit)):Option E:=Zqx x.1 x.2.1
def ZoY (a0 a1:E) (a2:List Int):Option E:=bif !a0.1 then Za (Zfm (a0,a1,())) none fun d4=>some (d4.1,d4.2.1,d4.2.2.1,d4.2.2.2.1,d4.2.2.2.2.1,d4.2.2.2.2.2) else bif !a1.1 then Za (Zfm (a0,a1,())) none fun d4=>some (d4.1,d4.2.1,d4.2.2.1,d4.2.2.2.1,d4.2.2.2.2.1,d4.2.2.2.2.2) else Za (Zfg (a0.2.1,a1.2.1,a2,())) none fun d4=>Za (Zfg (a0.2.2.1,a1.2.2.1,a2,())) none fun d5=>Za (Zfg (a0.2.2.2.1,a1.2.2.2.1,a2,())) none fun d6=>some (true,d4,d5,d6,IntKind.i64.wrap (↑(BitVec.ofInt IntKind.i64.bits a0.2.2.2.2.1 &&& BitVec.ofInt IntKind.i64.bits a1.2.2.2.2.1).toNat:Int),IntKind.i64.wrap (↑(BitVec.ofInt IntKind.i64.bits a0.2.2.2.2.2 ||| BitVec.ofInt IntKind.i64.bits a1.2.2.2.2.2).toNat:Int))
def ZoP (x:(E×(E×((List Int)×Unit)))):Option E:=ZoY x.1 x.2.1 x.2.2.1
def andI (a b:Int):Int:=IntKind.i64.wrap ((BitVec.ofInt IntKind.i64.bits a &&& BitVec.ofInt IntKind.i64.bits b).toNat:Int)
def orI (a b:Int):Int:=IntKind.i64.wrap ((BitVec.ofInt IntKind.i64.bits a ||| BitVec.ofInt IntKind.i64.bits b).toNat:Int)
def mrg (F:I→I→I) (a b:E):E:=(true,zipI F a.2.1 b.2.1,zipI F a.2.2.1 b.2.2.1,zipI F a.2.2.2.1 b.2.2.2.1,andI a.2.2.2.2.1 b.2.2.2.2.1,orI a.2.2.2.2.2 b.2.2.2.2.2)
def eJoin (F:I→I→I) (a b:E):E:=bif a.1 then (bif b.1 then mrg F a b else a) else bif b.1 then b else offE
def szE (e:E):Prop:=e.2.1.length≤1000∧e.2.2.1.length≤1000∧e.2.2.2.1.length≤1000
theorem Z1B {n:Nat} (h:n≤1000):decide ((0+n+1)*16≤lim)=true:=dT0 (by unfold lim;omega)
theorem ZH5 {e:E} (h:szE e):ZwT e=some e:=by
 unfold ZwT
 simp only [List.length_nil,Z1B h.1,Z1B h.2.1,Z1B h.2.2,cond_true,List.nil_append]
theorem ZME {a b:E} (ha:szE a) (hb:szE b):ZCU [a,b]=some (eJoin Zg a b):=by
 unfold ZCU
 have:=ZGa false 0 0 [a,b] (false,[],[],[],0,0) (by simp)
 rw [this]
 unfold Zl0 eJoin
 obtain ⟨on,V,G,A,must,may⟩:=a
 obtain ⟨on',V',G',A',must',may'⟩:=b
 have j1:=Zxe V V' ha.1
 have j2:=Zxe G G' ha.2.1
 have j3:=Zxe A A' ha.2.2
 cases on<;>cases on'<;>simp only [Zp,Zf0,ZlK,Bool.not_false,Bool.not_true,cond_true,cond_false,ZmI,ZH5 ha,ZH5 hb,WG,j1,j2,j3,Zb]
 all_goals first | rfl | simp only [mrg,andI,orI,ZTe]
theorem ZH8 {a b:E} (ha:szE a):Zqx a b=some (eJoin rJoin a b):=by
 unfold Zqx eJoin
 obtain ⟨on,V,G,A,must,may⟩:=a
 obtain ⟨on',V',G',A',must',may'⟩:=b
 cases on<;>cases on'<;>simp only [Bool.not_false,Bool.not_true,cond_true,cond_false,Zg1,ZuL _ _ ha.1,ZuL _ _ ha.2.1,ZuL _ _ ha.2.2,Zb]
 ·rfl
 ·rfl
theorem ZVw {a b:E} {st:List Int} (hst:st.length<9223372036854775807) (ha:szE a) (hb:szE b):ZzB a b st=some (eJoin (widF st) a b):=by
 unfold ZzB Zko
 rw [ZME hb ha]
 unfold eJoin
 obtain ⟨on,V,G,A,must,may⟩:=a
 obtain ⟨on',V',G',A',must',may'⟩:=b
 cases on<;>cases on'<;>simp only [Bool.not_false,Bool.not_true,cond_true,cond_false,Zjh,Zxf _ _ _ hst ha.1,Zxf _ _ _ hst ha.2.1,Zxf _ _ _ hst ha.2.2,Zb]
 simp only [mrg,andI,orI,ZTe]
theorem ZQK {a b:E} {st:List Int} (hst:st.length<9223372036854775807) (ha:szE a):ZoY a b st=some (eJoin (rwidF st) a b):=by
 unfold ZoY Zfm
 rw [ZH8 ha]
 unfold eJoin
 obtain ⟨on,V,G,A,must,may⟩:=a
 obtain ⟨on',V',G',A',must',may'⟩:=b
 cases on<;>cases on'<;>simp only [Bool.not_false,Bool.not_true,cond_true,cond_false,Zfg,ZsI _ _ _ hst ha.1,ZsI _ _ _ hst ha.2.1,ZsI _ _ _ hst ha.2.2,Zb]
 simp only [mrg,andI,orI]
structure okA (e:En):Prop where
 v:isB (vl e)=true
 h:0≤e.2.2.2.1∧e.2.2.2.1<2147483648
theorem entOK.a {e:En} (h:entOK e):okA e:=⟨h.v,h.h⟩
def okF (f:I→I→I):Prop:=∀ u v,isB u=true→Zd u=false→isB v=true→Zd v=false→isB (f u v)=true∧Zd (f u v)=false
theorem Zcb:okF Zg:=fun u v hu eu hv ev=>⟨by rw [Zca hv];exact ZkJ hu hv,by rw [ZDb,eu];rfl⟩
theorem Z0H {f:I→I→I} (hf:okF f) {l:List En} {e:En} (hl:∀ x∈l,entOK x) (he:okA e):∀ x∈stpT f l e,entOK x:=by
 unfold stpT
 cases hE:Zd (vl e)
 case true=>simpa using hl
 simp only [Bool.false_eq_true,if_false]
 intro x hx
 rcases ZOs hx with h | rfl | ⟨d,hd,hk,rfl⟩
 ·exact hl x h
 ·exact ⟨he.v,hE,he.h⟩
 ·have k:=hl d hd
  obtain ⟨h1,h2⟩:=hf (vl d) (vl e) k.v k.n he.v hE
  exact ⟨h1,h2,k.h⟩
theorem ZZq {f:I→I→I} (hf:okF f):∀ {es l:List En},(∀ x∈l,entOK x)→(∀ x∈es,okA x)→∀ x∈addT f l es,entOK x
 | [],l,hl,_=>hl
 | e::r,l,hl,h=>ZZq hf (es:=r) (Z0H hf hl (h e (List.mem_cons_self ..))) fun x hx=>h x (List.mem_cons_of_mem _ hx)
theorem ZPI {f g:I→I→I} (h:∀ u v,isB u=true→Zd u=false→isB v=true→Zd v=false→f u v=g u v) {e:En} (he:isB (vl e)=true) (hE:Zd (vl e)=false):∀ {l:List En},(∀ x∈l,entOK x)→pinT f e l=pinT g e l
 | [],_=>rfl
 | d::r,hl=>by
  have k:=hl d (List.mem_cons_self ..)
  unfold pinT
  rw [ZPI h he hE (l:=r) fun x hx=>hl x (List.mem_cons_of_mem _ hx),h (vl d) (vl e) k.v k.n he hE]
theorem ZO0 {f g:I→I→I} (hf:okF f) (h:∀ u v,isB u=true→Zd u=false→isB v=true→Zd v=false→f u v=g u v):∀ {es l:List En},(∀ x∈l,entOK x)→(∀ x∈es,okA x)→addT f l es=addT g l es
 | [],l,_,_=>rfl
 | e::r,l,hl,k=>by
  have he:=k e (List.mem_cons_self ..)
  have hs:stpT f l e=stpT g l e:=by
   unfold stpT
   cases hE:Zd (vl e)
   ·simp only [Bool.false_eq_true,if_false];exact ZPI h he.v hE hl
   ·rfl
  show addT f (stpT f l e) r=addT g (stpT g l e) r
  rw [← hs]
  exact ZO0 hf h (Z0H hf hl he) fun x hx=>k x (List.mem_cons_of_mem _ hx)
theorem Zwy {l es:List En} (hl:∀ x∈l,entOK x) (he:∀ x∈es,okA x):addT Zg l es=addT rJoin l es:=
 ZO0 Zcb (fun u v _ _ hv _=>Zca hv) hl he
theorem Z19 {l:List En} (h:∀ x∈l,entOK x) (hs:srt l):tabOK l:=ZPw (ZSP h hs)
theorem Zfk {f:I→I→I} (hf:okF f) {a b:List En} (ha:tabOK a) (hb:∀ x∈b,okA x):tabOK (addT f a b):=Z19 (ZZq hf ha.e hb) (ZlA ha.srt)
def ZCj:List Sh:=[.dat (.sl tI),.dat (.sl tI)]
def Zmy:Nat→List Nat:=fun c=>bif c.beq 0 then [0,1,12,13] else [4]
def ZrW:List Con:=[]
def Vr:StS:=⟨[(0,.sl tI),(1,.sl tI),(12,.int .i64),(13,.int .i64)],[],0⟩
def JN:StS:=⟨[(4,.undef)],[],0⟩
def JO:StS:=⟨[(4,.bool)],[],0⟩
abbrev QO:=((List I)×(List I)×Int×Int)
def Ztt:StD Vr→QO:=fun ((a,b,c,d,_),_)=>(a,b,c,d)
def Zut:QO→StD Vr:=fun (a,b,c,d)=>((a,b,c,d,()),())
abbrev Z6:=Unit
def ZNw (d:StD JN):Z6:=()
def Zba (x:Z6):StD JN:=(((),()),())
abbrev Z7:=Bool
def ZNx (d:StD JO):Z7:=(d.1.1)
def Zbb (x:Z7):StD JO:=((x,()),())
def JR (s0 s1:List I) (s12 s13:Int):Option (((List I)×(List I)×Int×Int)⊕(Unit⊕Bool)):=bif decide (s13<s12) then bif decide (0≤s13) then Za s0[s13.toNat]? none fun d6=>bif decide (0≤s13) then Za s1[s13.toNat]? none fun d7=>bif !(d6.1==d7.1&&d6.2==d7.2) then some (.inr (.inr false)) else some (.inl (s0,s1,s12,IntKind.i64.wrap (s13+1))) else none else none else some (.inr (.inl PUnit.unit))
def Zkm:QO→Option (QO⊕(Z6⊕Z7)):=fun (a,b,c,d)=>JR a b c d
def Vj (x:QO):Option (Z6⊕Z7):=Zh Zkm Zl x
def Znl:Nat→Tm→Prog (Nat×Tm):=(varP 0 (fun T h=>(rdS Vr T h).map Ztt) Vj (fun y=>.alt y (altE 2 JN Zba) (altE 1 JO Zbb)) (fun _ _=>.fail))
def Zv5:Lpc:=⟨160,0,26,(fun base T=>.norm base (Zmy 0) T (Znl base)),by kernel_rfl,by kernel_rfl,(loopU ZrW [] 40 1048576 8 (keep:=Zmy) (q:=Znl) (by kernel_rfl) (Zv (s:=Vr) (un:=Zut) (by rfl) (fun _=>rfl) (ZW (Zn (s:=JN) (un:=Zba) (flat:=ZNw) (by rfl) (fun _=>rfl)) (Zn (s:=JO) (un:=Zbb) (flat:=ZNx) (by rfl) (fun _=>rfl))) (step:=Zkm) (fun _=>by kernel_rfl) (fun _ _ e=>⟨_,e⟩) (ZV (Zm 2 JN Zba) (Zm 1 JO Zbb)) (ZB.fail _ _)))⟩
def Zm2 (a0 a1:List I):Option Bool:=bif (a0.length:Int) !=(a1.length:Int) then some false else Za (Vj (a0,a1,(a0.length:Int),0)) none fun d4=>Sum.elim (fun e5=>some true) (fun e5=>some e5) d4
def Vu (x:((List I)×((List I)×Unit))):Option Bool:=Zm2 x.1 x.2.1
def Zqh:=conP true ZCj (.dat .bool) Vu
theorem ZD2:Zf Tryz.prog 160 Zqh:=Ze (calU ZrW [Zv5] 40 1048576 8 160) true (by rfl) (by rfl) (fun x r e=>(Zk _ _ _ _ _ _ _).trans ((show _=Vu x by kernel_rfl).trans e)) (.inl rfl)
def Hk (s1 s0:List I) (i:Nat)  (d:I):Option (Unit⊕(Z6⊕Z7)):=
 Za s1[i]? (none) fun d7=>
  bif !(d.1==d7.1&&d.2==d7.2) then
  some (.inr (.inr false))
 else some (.inl ())
def Zkg (s1 s0:List I):Option (Z6⊕Z7):=
 some (.inl PUnit.unit)
abbrev Zug (s1 s0:List I) (i:Nat) (s:Unit):QO:=(s0,s1,(s0.length:Int),(i:Int))
def Zkl (s1 s0:List I) (s:Unit):Option (Z6⊕Z7):=Zp (fun i s d=>Hk s1 s0 i  d) (fun s=>Zkg s1 s0 ) 0 s0 s
theorem Zuf (s1 s0:List I) (s:Unit) (hl:s0.length<9223372036854775807):Vj (s0,s1,(s0.length:Int),0)=Zkl s1 s0 s:=by
 unfold Vj Zkl
 refine Zs s0 (Zug s1 s0) _ _ ?_ ?_ s (by unfold Zl;omega)
 ·intro i s d hi hd
  have e1:decide ((i:Int)<(s0.length:Int))=true:=dT0 (by omega)
  have e2:decide (0≤(i:Int))=true:=dT0 (by omega)
  have e3:Int.toNat (i:Int)=i:=tN0 i
  have e4:=Zq hi (Nat.le_of_lt hl)
  show JR (s0) (s1) ((s0.length:Int)) ((i:Int))=upd _ (Hk s1 s0 i  d)
  unfold JR Hk
  simp only [e1,e2,e3,e4,hd,cond_true,cond_false,Zb,ZC,ZF,ZD,ZI,ZJ,ZE]
 ·intro s
  have e1:decide ((s0.length:Int)<(s0.length:Int))=false:=dF0 (by omega)
  show JR (s0) (s1) ((s0.length:Int)) ((s0.length:Int))=_
  unfold JR Zkg
  rw [e1]
  rfl
def ZRK:List Sh:=[.dat tE,.dat tE]
def ZVQ:List Con:=[⟨160,Zqh,ZD2⟩]
def ZCV (a0 a1:E):Option Bool:=bif !a0.1 then some (a0.1==a1.1) else bif !a1.1 then some (a0.1==a1.1) else Za (Vu (a0.2.1,a1.2.1,())) none fun d3=>bif d3 then Za (Vu (a0.2.2.1,a1.2.2.1,())) none fun d4=>bif d4 then Za (Vu (a0.2.2.2.1,a1.2.2.2.1,())) none fun d5=>bif d5 then bif a0.2.2.2.2.1==a1.2.2.2.2.1 then some (a0.2.2.2.2.2==a1.2.2.2.2.2) else some false else some false else some false else some false
def Znv (x:E×(E×Unit)):Option Bool:=ZCV x.1 x.2.1
def ZG8:=conP true ZRK (.dat .bool) Znv
theorem ZTB:Zf Tryz.prog 114 ZG8:=Ze (calU ZVQ [] 40 1048576 8 114) true (by rfl) (by rfl) (fun x r e=>(Zk _ _ _ _ _ _ _).trans ((show _=Znv x by kernel_rfl).trans e)) (.inl rfl)
section
open Go.Proofs
variable {u:U} {t:Int} {a b:E}
theorem Zxh:∀ x y,isB x=true∧Zd x=false→isB y=true→isB (Zg x y)=true∧Zd (Zg x y)=false:=fun x y hx hy=>⟨ZOf hx.1 hy,by rw [ZDb,hx.2];rfl⟩
theorem ZOq (st:List Int):∀ x y,isB x=true∧Zd x=false→isB y=true→isB (widF st x y)=true∧Zd (widF st x y)=false:=fun x y hx hy=>by
 obtain ⟨h1,h2,h3,_⟩:=ZEG hx.1 hy st
 exact ⟨h3,(ZdW h1 hx.2).2⟩
theorem Z39 {x y:Int} (hx:okB x) (hy:okB y):okB (andI x y):=by
 unfold okB at *
 have h:=ZCg (a:=x.toNat) (b:=y.toNat) (by omega) (by omega)
 have e1:((x.toNat:Nat):Int)=x:=by omega
 have e2:((y.toNat:Nat):Int)=y:=by omega
 rw [e1,e2] at h
 unfold andI
 rw [h]
 have:=Nat.and_le_left (n:=x.toNat) (m:=y.toNat)
 omega
theorem Z6f {x y:Int} (hx:okB x) (hy:okB y):okB (orI x y):=by
 unfold okB at *
 have h:=ZTg (a:=x.toNat) (b:=y.toNat) (by omega) (by omega)
 have e1:((x.toNat:Nat):Int)=x:=by omega
 have e2:((y.toNat:Nat):Int)=y:=by omega
 rw [e1,e2] at h
 unfold orI
 rw [h]
 have:=Nat.or_lt_two_pow (x:=x.toNat) (y:=y.toNat) (n:=31) (by omega) (by omega)
 omega
theorem Z4y {F:I→I→I} (hF:∀ x y,isB x=true∧Zd x=false→isB y=true→isB (F x y)=true∧Zd (F x y)=false) (ha:envOK u t a) (hb:envOK u t b):envOK u t (mrg F a b):=
 ZAA ha (Zww _ _ _) (Zww _ _ _) (Zww _ _ _) (ZUg hF (envV ha) fun x k=>(envV hb x k).1) (ZUg hF (envG ha) fun x k=>(envG hb x k).1) (ZUg hF (envA ha) fun x k=>(envA hb x k).1) (Z39 ha.must hb.must) (Z6f ha.may hb.may)
theorem ZmQ {F:I→I→I} (hF:∀ x y,isB x=true∧Zd x=false→isB y=true→isB (F x y)=true∧Zd (F x y)=false) (ha:a.1=true→envOK u t a) (hb:b.1=true→envOK u t b):(eJoin F a b).1=true→envOK u t (eJoin F a b):=by
 unfold eJoin
 cases ea:a.1<;>cases eb:b.1
 ·exact fun k=>nomatch k
 ·exact fun _=>hb eb
 ·exact fun _=>ha ea
 ·exact fun _=>Z4y hF (ha ea) (hb eb)
theorem ZSj {F G:I→I→I} (h:∀ x y,isB x=true→isB y=true→F x y=G x y) (ha:a.1=true→envOK u t a) (hb:b.1=true→envOK u t b):eJoin F a b=eJoin G a b:=by
 unfold eJoin
 cases ea:a.1<;>cases eb:b.1<;>simp only [cond_true,cond_false]
 have ha:=ha ea
 have hb:=hb eb
 unfold mrg
 rw [ZUf h (fun x k=>(envV ha x k).1) fun x k=>(envV hb x k).1,ZUf h (fun x k=>(envG ha x k).1) fun x k=>(envG hb x k).1,ZUf h (fun x k=>(envA ha x k).1) fun x k=>(envA hb x k).1]
theorem Zqi (hu:unitOK u) (h:envOK u t a):szE a:=by
 obtain ⟨c,hc,hv⟩:=h.c
 have cv:=(hu.ts c (mG0 hc)).v
 refine ⟨by omega,by rw [h.g];have:=hu.g;omega,by rw [h.a];have:=hu.a;omega⟩
theorem ZTw {α:Type} {q:α→α→Bool} (hq:∀ x y,q x y=true↔x=y) [DecidableEq α] {f:Nat→Unit→α→Option (Unit⊕(Unit⊕Bool))} {b:List α} (h:∀ j d,f j () d=Za b[j]? none fun e=>bif !(q d e) then some (.inr (.inr false)) else some (.inl ())) :
  ∀ (a:List α) (j:Nat),j+a.length=b.length→Zp f (fun _=>some (.inl ())) j a ()=some (bif decide (a=b.drop j) then .inl () else .inr false)
 | [],j,hl=>by
  have:b.drop j=[]:=List.drop_eq_nil_of_le (by simp at hl;omega)
  rw [this];rfl
 | d::r,j,hl=>by
  rw [List.length_cons] at hl
  have hj:j<b.length:=by omega
  have hd:b.drop j=b[j]::b.drop (j+1):=List.drop_eq_getElem_cons hj
  rw [hd]
  simp only [Zp,h,List.getElem?_eq_getElem hj,Zb]
  cases e:q d b[j]
  ·have:d≠b[j]:=fun k=>by rw [(hq _ _).2 k] at e;cases e
   rw [dF0 (fun k=>this (List.cons.inj k).1)];rfl
  ·have ed:=(hq _ _).1 e
   simp only [Bool.not_true,cond_false]
   have ih:=ZTw hq h r (j+1) (by omega)
   rw [ih]
   congr 2
   rw [decide_eq_decide]
   exact ⟨fun k=>by rw [k,← ed],fun k=>(List.cons.inj k).2⟩
theorem ZXm {α:Type} {q:α→α→Bool} (hq:∀ x y,q x y=true↔x=y) [DecidableEq α] {g:Option Bool} {a b:List α} {f:Nat→Unit→α→Option (Unit⊕(Unit⊕Bool))} (h:∀ j d,f j () d=Za b[j]? none fun e=>bif !(q d e) then some (.inr (.inr false)) else some (.inl ()))
  (hg:g=bif (a.length:Int) !=(b.length:Int) then some false else Za (Zp f (fun _=>some (.inl ())) 0 a ()) none fun d4=>Sum.elim (fun _=>some true) (fun e5=>some e5) d4):g=some (decide (a=b)):=by
 rw [hg]
 by_cases hl:a.length=b.length
 ·rw [show ((a.length:Int) !=(b.length:Int))=false by simp [hl],ZTw hq h a 0 (by omega),List.drop_zero]
  cases decide (a=b)<;>rfl
 ·rw [show ((a.length:Int) !=(b.length:Int))=true by simp;omega,dF0 (fun e=>hl (by rw [e]))];rfl
def Z4h (x y:I):Bool:=x.1==y.1&&x.2==y.2
theorem ZSm (x y:I):Z4h x y=true↔x=y:=by simp [Z4h,Prod.ext_iff]
theorem Znf (a b:List I) (ha:a.length≤1000):Zm2 a b=some (decide (a=b)):=
 ZXm ZSm (f:=fun i _ d=>Hk b a i d) (fun j d=>rfl) (by
  unfold Zm2
  rw [Zuf b a () (by omega)];rfl)
theorem ZuM (a b:List I) (ha:a.length≤1000):ZmZ a b=some (decide (a=b)):=
 ZXm ZSm (f:=fun i _ d=>WU b a i d) (fun j d=>rfl) (by
  unfold ZmZ
  rw [ZqV b a () (by omega)];rfl)
def sameE (a b:E):Bool:=bif a.1&&b.1 then decide (a.2.1=b.2.1)&&(decide (a.2.2.1=b.2.2.1)&&(decide (a.2.2.2.1=b.2.2.2.1)&&(a.2.2.2.2.1==b.2.2.2.2.1&&a.2.2.2.2.2==b.2.2.2.2.2))) else a.1==b.1
theorem ZMF {a b:E} (ha:a.1=true→szE a):ZCV a b=some (sameE a b):=by
 unfold ZCV sameE Vu
 obtain ⟨on,V,G,A,must,may⟩:=a
 cases on
 ·cases b.1<;>rfl
 ·have ha:=ha rfl
  cases b.1
  ·rfl
  ·simp only [Bool.not_true,cond_false,Bool.true_and,cond_true,Znf _ _ ha.1,Znf _ _ ha.2.1,Znf _ _ ha.2.2,Zb]
   cases decide (V=b.2.1)<;>cases decide (G=b.2.2.1)<;>cases decide (A=b.2.2.2.1)<;>cases (must==b.2.2.2.2.1)<;>rfl
theorem ZuK {a b:E} (ha:a.1=true→szE a):ZmX a b=some (sameE a b):=by
 unfold ZmX sameE Zfo
 obtain ⟨on,V,G,A,must,may⟩:=a
 cases on
 ·cases b.1<;>rfl
 ·have ha:=ha rfl
  cases b.1
  ·rfl
  ·simp only [Bool.not_true,cond_false,Bool.true_and,cond_true,ZuM _ _ ha.1,ZuM _ _ ha.2.1,ZuM _ _ ha.2.2,Zb]
   cases decide (V=b.2.1)<;>cases decide (G=b.2.2.1)<;>cases decide (A=b.2.2.2.1)<;>cases (must==b.2.2.2.2.1)<;>rfl
end
def ZQf:List Sh:=[.dat (.int .i64)]
def ZTR:List Con:=[]
def ZzC (a0:Int):Option (List I):=bif decide ((0≤if 0>a0 then 0 else a0)∧((if 0>a0 then 0 else a0)=if 0>a0 then 0 else a0)∧(Int.toNat (if (0:Int)>a0 then 0 else a0))*(16+1)≤lim) then some (List.replicate (Int.toNat (if (0:Int)>a0 then 0 else a0)) (0,0)) else none
def Zos (x:Int×Unit):Option (List I):=ZzC x.1
def ZEJ:=conP true ZQf (.dat (.sl tI)) Zos
theorem ZQR:Zf Tryz.prog 78 ZEJ:=Ze (calU ZTR [] 40 1048576 8 78) true (by rfl) (by rfl) (fun x r e=>(Zk _ _ _ _ _ _ _).trans ((show _=Zos x by kernel_rfl).trans e)) (.inl rfl)
abbrev Zx0:Type:=((List Int)×Int×Int×Bool×Int×Int×Bool×(List I)×(List I)×Int×Int×(List I))
def ZQd:List Sh:=[.dat tU,.dat (.int .i64)]
def Zoa:Nat→List Nat:=fun c=>bif c.beq 0 then [4,5,33,34,35] else [4,5]
def ZIy:List Con:=[⟨77,ZwE,ZIs⟩,⟨78,ZEJ,ZQR⟩,⟨79,ZCn,ZM3⟩]
def ZhP:StS:=⟨[(4,.ptr 0 0),(5,.ptr 1 0),(33,.sl (.int .i64)),(34,.int .i64),(35,.int .i64)],[(0,.box [.bool,.nil,.nil,.nil,.int .i64,.int .i64]),(1,.box [.bool,.sl tI,.row 2,.sl tI,.int .i64,.int .i64]),(2,.row tI)],3⟩
def Zav:StS:=⟨[(4,.ptr 0 0),(5,.ptr 1 0)],[(0,.box [.bool,.nil,.nil,.nil,.int .i64,.int .i64]),(1,.box [.bool,.sl tI,.row 2,.sl tI,.int .i64,.int .i64]),(2,.row tI)],3⟩
abbrev VA:=Zx0
def ZFB:StD ZhP→VA:=fun ((_,_,a,b,c,_),((d,_,_,_,e,f,_),(g,h,_,i,j,k,_),l,_))=>(a,b,c,d,e,f,g,h,i,j,k,l)
def ZGH:VA→StD ZhP:=fun (a,b,c,d,e,f,g,h,i,j,k,l)=>(((),(),a,b,c,()),((d,(),(),(),e,f,()),(g,h,(),i,j,k,()),l,()))
abbrev J0:=(Bool×Int×Int×Bool×(List I)×(List I)×Int×Int×(List I))
def ZWD:StD Zav→J0:=fun ((_,_,_),((a,_,_,_,b,c,_),(d,e,_,f,g,h,_),i,_))=>(a,b,c,d,e,f,g,h,i)
def ZjR:J0→StD Zav:=fun (a,b,c,d,e,f,g,h,i)=>(((),(),()),((a,(),(),(),b,c,()),(d,e,(),f,g,h,()),i,()))
def ZbF (s33:List Int) (s34 s35:Int) (b0:Bool) (b0_1 b0_2:Int) (b1:Bool) (b1_1 b1_2:List I) (b1_3 b1_4:Int) (b2:List I):Option (Zx0⊕(Bool×Int×Int×Bool×(List I)×(List I)×Int×Int×(List I))):=bif decide (s35<s34) then bif decide (0≤s35) then Za s33[s35.toNat]? none fun d14=>Za (Zo8 ([d14],())) none fun d15=>bif decide ((b2.length+[d15].length+1)*16≤lim) then some (.inl (s33,s34,IntKind.i64.wrap (s35+1),b0,b0_1,b0_2,b1,b1_1,b1_2,b1_3,b1_4,b2++[d15])) else none else none else some (.inr (b0,b0_1,b0_2,b1,b1_1,b1_2,b1_3,b1_4,b2))
def ZrZ:VA→Option (VA⊕J0):=fun (a,b,c,d,e,f,g,h,i,j,k,l)=>ZbF a b c d e f g h i j k l
def Zhf (x:VA):Option J0:=Zh ZrZ Zl x
def Zxo:Nat→Tm→Prog (Nat×Tm):=(varP 0 (fun T h=>(rdS ZhP T h).map ZFB) Zhf (altE 2 Zav ZjR) (fun _ _=>.fail))
def ZJy:Lpc:=⟨50,0,49,(ownP [(1,2,tI)] [] (Zoa 0) (fun base T=>.norm base (Zoa 0) T (Zxo base))),by kernel_rfl,by kernel_rfl,(Ja (loopU ZIy [] 40 1048576 8 (keep:=Zoa) (q:=Zxo) (by kernel_rfl) (Zv (s:=ZhP) (un:=ZGH) (by rfl) (fun _=>rfl) (Zn (s:=Zav) (un:=ZjR) (flat:=ZWD) (by rfl) (fun _=>rfl)) (step:=ZrZ) (fun _=>by kernel_rfl) (fun _ _ e=>⟨_,e⟩) (Zm 2 Zav ZjR) (ZB.fail _ _))))⟩
def ZzA (a0:U) (a1:Int):Option E:=bif decide (a1<0) then some ((false,[],[],[],0,0):E) else bif decide (a1≥(List.length a0.2.2.2:Int)) then some ((false,[],[],[],0,0):E) else bif decide (0≤a1) then Za a0.2.2.2[a1.toNat]? none fun d4=>Za (Zos (d4.1,())) none fun d5=>Za (Zos ((List.length a0.2.1:Int),())) none fun d6=>Za (Zhf (a0.1,(List.length a0.1:Int),0,false,0,0,true,d5,d6,0,0,[])) none fun d7=>some (d7.2.2.2.1,d7.2.2.2.2.1,d7.2.2.2.2.2.2.2.2,d7.2.2.2.2.2.1,d7.2.2.2.2.2.2.1,d7.2.2.2.2.2.2.2.1) else none
def Zlw (x:U×(Int×Unit)):Option E:=ZzA x.1 x.2.1
def Zuw:=conP true ZQd (.dat tE) Zlw
theorem ZE3:Zf Tryz.prog 50 Zuw:=Ze (calU ZIy [ZJy] 40 1048576 8 50) true (by rfl) (by rfl) (fun x r e=>(Zk _ _ _ _ _ _ _).trans ((show _=Zlw x by kernel_rfl).trans e)) (.inl rfl)
def ZfZ (b0:Bool) (b0_1 b0_2:Int) (b1:Bool) (b1_1 b1_2:List I) (b1_3 b1_4:Int) (s33:List Int) (i:Nat) (b2:List I) (d:Int):Option ((List I)⊕J0):=
 Za (Zo8 ([d],())) (none) fun d15=>
  bif decide ((b2.length+[d15].length+1)*16≤lim) then
  some (.inl (b2++[d15]))
 else none
def ZrF (b0:Bool) (b0_1 b0_2:Int) (b1:Bool) (b1_1 b1_2:List I) (b1_3 b1_4:Int) (s33:List Int) (b2:List I):Option J0:=
 some (b0,b0_1,b0_2,b1,b1_1,b1_2,b1_3,b1_4,b2)
abbrev ZGl (b0:Bool) (b0_1 b0_2:Int) (b1:Bool) (b1_1 b1_2:List I) (b1_3 b1_4:Int) (s33:List Int) (i:Nat) (s:List I):VA:=(s33,(s33.length:Int),(i:Int),b0,b0_1,b0_2,b1,b1_1,b1_2,b1_3,b1_4,s)
def ZlZ (b0:Bool) (b0_1 b0_2:Int) (b1:Bool) (b1_1 b1_2:List I) (b1_3 b1_4:Int) (s33:List Int) (s:List I):Option J0:=Zp (fun i s d=>ZfZ b0 b0_1 b0_2 b1 b1_1 b1_2 b1_3 b1_4 s33 i s d) (fun s=>ZrF b0 b0_1 b0_2 b1 b1_1 b1_2 b1_3 b1_4 s33 s) 0 s33 s
theorem ZF9 (b0:Bool) (b0_1 b0_2:Int) (b1:Bool) (b1_1 b1_2:List I) (b1_3 b1_4:Int) (s33:List Int) (s:List I) (hl:s33.length<9223372036854775807):Zhf (s33,(s33.length:Int),0,b0,b0_1,b0_2,b1,b1_1,b1_2,b1_3,b1_4,s)=ZlZ b0 b0_1 b0_2 b1 b1_1 b1_2 b1_3 b1_4 s33 s:=by
 unfold Zhf ZlZ
 refine Zs s33 (ZGl b0 b0_1 b0_2 b1 b1_1 b1_2 b1_3 b1_4 s33) _ _ ?_ ?_ s (by unfold Zl;omega)
 ·intro i s d hi hd
  have e1:decide ((i:Int)<(s33.length:Int))=true:=dT0 (by omega)
  have e2:decide (0≤(i:Int))=true:=dT0 (by omega)
  have e3:Int.toNat (i:Int)=i:=tN0 i
  have e4:=Zq hi (Nat.le_of_lt hl)
  show ZbF (s33) ((s33.length:Int)) ((i:Int)) (b0) (b0_1) (b0_2) (b1) (b1_1) (b1_2) (b1_3) (b1_4) (s)=upd _ (ZfZ b0 b0_1 b0_2 b1 b1_1 b1_2 b1_3 b1_4 s33 i s d)
  unfold ZbF ZfZ
  simp only [e1,e2,e3,e4,hd,cond_true,cond_false,Zb,ZC,ZF,ZD,ZI,ZJ,ZE]
 ·intro s
  have e1:decide ((s33.length:Int)<(s33.length:Int))=false:=dF0 (by omega)
  show ZbF (s33) ((s33.length:Int)) ((s33.length:Int)) (b0) (b0_1) (b0_2) (b1) (b1_1) (b1_2) (b1_3) (b1_4) (s)=_
  unfold ZbF ZrF
  rw [e1]
  rfl
abbrev Zun:Type:=(Int×(List Int)×(List Int)×Int×(List C)×Bool×Int×Int×Bool×Int×Int×(List I)×(List I)×(List I))
abbrev Zuo:Type:=(Int×(List Int)×(List Int)×Int×(List C)×Bool×Int×Int×Bool×Int×Int×(List I)×(List I))
abbrev Zup:Type:=(Int×Int×(List Int)×(List Int)×Int×(List C)×Bool×Int×Int×Bool×Int×Int×(List I))
abbrev Zuq:Type:=((List Int)×(List Int)×Int×(List C)×Bool×Int×Int×Bool×Int×Int×(List I)×(List I))
abbrev YO:=Zup
abbrev Zch:=((List Int)×(List Int)×Int×(List C)×Bool×Int×Int×Bool×Int×Int×(List I))
def K6 (s1 s6:Int) (b0 b0_1:List Int) (b0_2:Int) (b0_3:List C) (b1:Bool) (b1_1 b1_2:Int) (b2:Bool) (b2_1 b2_2:Int) (b3:List I):Option (Zup⊕((List Int)×(List Int)×Int×(List C)×Bool×Int×Int×Bool×Int×Int×(List I))):=bif decide (0≤s1) then Za b0_3[s1.toNat]? none fun d17=>bif decide (s6<d17.1) then bif decide ((b3.length+[(0,0)].length+1)*16≤lim) then some (.inl (s1,IntKind.i64.wrap (s6+1),b0,b0_1,b0_2,b0_3,b1,b1_1,b1_2,b2,b2_1,b2_2,b3++[(0,0)])) else none else some (.inr (b0,b0_1,b0_2,b0_3,b1,b1_1,b1_2,b2,b2_1,b2_2,b3)) else none
def ZpM:YO→Option (YO⊕Zch):=fun (a,b,c,d,e,f,g,h,i,j,k,l,m)=>K6 a b c d e f g h i j k l m
def Zec (x:YO):Option Zch:=Zh ZpM Zl x
abbrev YP:=Zuo
abbrev QZ:=Zuq
def VS (s7:Int) (b0 b0_1:List Int) (b0_2:Int) (b0_3:List C) (b1:Bool) (b1_1 b1_2:Int) (b2:Bool) (b2_1 b2_2:Int) (b3 b4:List I):Option (Zuo⊕Zuq):=bif decide (s7<(b0.length:Int)) then bif decide (0≤s7) then Za b0[s7.toNat]? none fun d17=>bif decide ((b4.length+[(d17,d17)].length+1)*16≤lim) then some (.inl (IntKind.i64.wrap (s7+1),b0,b0_1,b0_2,b0_3,b1,b1_1,b1_2,b2,b2_1,b2_2,b3,b4++[(d17,d17)])) else none else none else some (.inr (b0,b0_1,b0_2,b0_3,b1,b1_1,b1_2,b2,b2_1,b2_2,b3,b4))
def ZpN:YP→Option (YP⊕QZ):=fun (a,b,c,d,e,f,g,h,i,j,k,l,m)=>VS a b c d e f g h i j k l m
def Zed (x:YP):Option QZ:=Zh ZpN Zl x
abbrev YQ:=Zun
abbrev Q0:=(Bool×Int×Int×Bool×Int×Int×(List I)×(List I)×(List I))
def VU (s8:Int) (b0 b0_1:List Int) (b0_2:Int) (b0_3:List C) (b1:Bool) (b1_1 b1_2:Int) (b2:Bool) (b2_1 b2_2:Int) (b3 b4 b5:List I):Option (Zun⊕(Bool×Int×Int×Bool×Int×Int×(List I)×(List I)×(List I))):=bif decide (s8<(b0_1.length:Int)) then bif decide ((b5.length+[(0,0)].length+1)*16≤lim) then some (.inl (IntKind.i64.wrap (s8+1),b0,b0_1,b0_2,b0_3,b1,b1_1,b1_2,b2,b2_1,b2_2,b3,b4,b5++[(0,0)])) else none else some (.inr (b1,b1_1,b1_2,b2,b2_1,b2_2,b3,b4,b5))
def ZpO:YQ→Option (YQ⊕Q0):=fun (a,b,c,d,e,f,g,h,i,j,k,l,m,n)=>VU a b c d e f g h i j k l m n
def Zee (x:YQ):Option Q0:=Zh ZpO Zl x
def ZuF (a0:U) (a1:Int):Option E:=bif decide (a1<0) then some ((false,[],[],[],0,0):E) else bif decide (a1≥(List.length a0.2.2.2:Int)) then some ((false,[],[],[],0,0):E) else Za (Zec (a1,0,a0.1,a0.2.1,a0.2.2.1,a0.2.2.2,false,0,0,true,0,0,[])) none fun d6=>Za (Zed (0,d6.1,d6.2.1,d6.2.2.1,d6.2.2.2.1,d6.2.2.2.2.1,d6.2.2.2.2.2.1,d6.2.2.2.2.2.2.1,d6.2.2.2.2.2.2.2.1,d6.2.2.2.2.2.2.2.2.1,d6.2.2.2.2.2.2.2.2.2.1,d6.2.2.2.2.2.2.2.2.2.2,[])) none fun d7=>Za (Zee (0,d7.1,d7.2.1,d7.2.2.1,d7.2.2.2.1,d7.2.2.2.2.1,d7.2.2.2.2.2.1,d7.2.2.2.2.2.2.1,d7.2.2.2.2.2.2.2.1,d7.2.2.2.2.2.2.2.2.1,d7.2.2.2.2.2.2.2.2.2.1,d7.2.2.2.2.2.2.2.2.2.2.1,d7.2.2.2.2.2.2.2.2.2.2.2,[])) none fun d8=>some (d8.2.2.2.1,d8.2.2.2.2.2.2.1,d8.2.2.2.2.2.2.2.1,d8.2.2.2.2.2.2.2.2,d8.2.2.2.2.1,d8.2.2.2.2.2.1)
def Zg0 (x:U×(Int×Unit)):Option E:=ZuF x.1 x.2.1
def ZdG (b0_1:List Int) (b0_2:Int) (b0_3:List C) (b1:Bool) (b1_1 b1_2:Int) (b2:Bool) (b2_1 b2_2:Int) (b3:List I) (b0:List Int) (i:Nat) (b4:List I) (d:Int):Option ((List I)⊕QZ):=
 bif decide ((b4.length+[(d,d)].length+1)*16≤lim) then
  some (.inl (b4++[(d,d)]))
 else none
def Zjp (b0_1:List Int) (b0_2:Int) (b0_3:List C) (b1:Bool) (b1_1 b1_2:Int) (b2:Bool) (b2_1 b2_2:Int) (b3:List I) (b0:List Int) (b4:List I):Option QZ:=
 some (b0,b0_1,b0_2,b0_3,b1,b1_1,b1_2,b2,b2_1,b2_2,b3,b4)
abbrev ZBt (b0_1:List Int) (b0_2:Int) (b0_3:List C) (b1:Bool) (b1_1 b1_2:Int) (b2:Bool) (b2_1 b2_2:Int) (b3:List I) (b0:List Int) (i:Nat) (s:List I):YP:=((i:Int),b0,b0_1,b0_2,b0_3,b1,b1_1,b1_2,b2,b2_1,b2_2,b3,s)
def ZjE (b0_1:List Int) (b0_2:Int) (b0_3:List C) (b1:Bool) (b1_1 b1_2:Int) (b2:Bool) (b2_1 b2_2:Int) (b3:List I) (b0:List Int) (s:List I):Option QZ:=Zp (fun i s d=>ZdG b0_1 b0_2 b0_3 b1 b1_1 b1_2 b2 b2_1 b2_2 b3 b0 i s d) (fun s=>Zjp b0_1 b0_2 b0_3 b1 b1_1 b1_2 b2 b2_1 b2_2 b3 b0 s) 0 b0 s
theorem ZBh (b0_1:List Int) (b0_2:Int) (b0_3:List C) (b1:Bool) (b1_1 b1_2:Int) (b2:Bool) (b2_1 b2_2:Int) (b3:List I) (b0:List Int) (s:List I) (hl:b0.length<9223372036854775807):Zed (0,b0,b0_1,b0_2,b0_3,b1,b1_1,b1_2,b2,b2_1,b2_2,b3,s)=ZjE b0_1 b0_2 b0_3 b1 b1_1 b1_2 b2 b2_1 b2_2 b3 b0 s:=by
 unfold Zed ZjE
 refine Zs b0 (ZBt b0_1 b0_2 b0_3 b1 b1_1 b1_2 b2 b2_1 b2_2 b3 b0) _ _ ?_ ?_ s (by unfold Zl;omega)
 ·intro i s d hi hd
  have e1:decide ((i:Int)<(b0.length:Int))=true:=dT0 (by omega)
  have e2:decide (0≤(i:Int))=true:=dT0 (by omega)
  have e3:Int.toNat (i:Int)=i:=tN0 i
  have e4:=Zq hi (Nat.le_of_lt hl)
  show VS ((i:Int)) (b0) (b0_1) (b0_2) (b0_3) (b1) (b1_1) (b1_2) (b2) (b2_1) (b2_2) (b3) (s)=upd _ (ZdG b0_1 b0_2 b0_3 b1 b1_1 b1_2 b2 b2_1 b2_2 b3 b0 i s d)
  unfold VS ZdG
  simp only [e1,e2,e3,e4,hd,cond_true,cond_false,Zb,ZC,ZF,ZD,ZI,ZJ,ZE]
 ·intro s
  have e1:decide ((b0.length:Int)<(b0.length:Int))=false:=dF0 (by omega)
  show VS ((b0.length:Int)) (b0) (b0_1) (b0_2) (b0_3) (b1) (b1_1) (b1_2) (b2) (b2_1) (b2_2) (b3) (s)=_
  unfold VS Zjp
  rw [e1]
  rfl
def ZdH (b0:List Int) (b0_2:Int) (b0_3:List C) (b1:Bool) (b1_1 b1_2:Int) (b2:Bool) (b2_1 b2_2:Int) (b3 b4:List I) (b0_1:List Int) (i:Nat) (b5:List I) (d:Int):Option ((List I)⊕Q0):=
 bif decide ((b5.length+[(0,0)].length+1)*16≤lim) then
  some (.inl (b5++[(0,0)]))
 else none
def Zjq (b0:List Int) (b0_2:Int) (b0_3:List C) (b1:Bool) (b1_1 b1_2:Int) (b2:Bool) (b2_1 b2_2:Int) (b3 b4:List I) (b0_1:List Int) (b5:List I):Option Q0:=
 some (b1,b1_1,b1_2,b2,b2_1,b2_2,b3,b4,b5)
abbrev ZBu (b0:List Int) (b0_2:Int) (b0_3:List C) (b1:Bool) (b1_1 b1_2:Int) (b2:Bool) (b2_1 b2_2:Int) (b3 b4:List I) (b0_1:List Int) (i:Nat) (s:List I):YQ:=((i:Int),b0,b0_1,b0_2,b0_3,b1,b1_1,b1_2,b2,b2_1,b2_2,b3,b4,s)
def ZjF (b0:List Int) (b0_2:Int) (b0_3:List C) (b1:Bool) (b1_1 b1_2:Int) (b2:Bool) (b2_1 b2_2:Int) (b3 b4:List I) (b0_1:List Int) (s:List I):Option Q0:=Zp (fun i s d=>ZdH b0 b0_2 b0_3 b1 b1_1 b1_2 b2 b2_1 b2_2 b3 b4 b0_1 i s d) (fun s=>Zjq b0 b0_2 b0_3 b1 b1_1 b1_2 b2 b2_1 b2_2 b3 b4 b0_1 s) 0 b0_1 s
theorem ZBi (b0:List Int) (b0_2:Int) (b0_3:List C) (b1:Bool) (b1_1 b1_2:Int) (b2:Bool) (b2_1 b2_2:Int) (b3 b4:List I) (b0_1:List Int) (s:List I) (hl:b0_1.length<9223372036854775807):Zee (0,b0,b0_1,b0_2,b0_3,b1,b1_1,b1_2,b2,b2_1,b2_2,b3,b4,s)=ZjF b0 b0_2 b0_3 b1 b1_1 b1_2 b2 b2_1 b2_2 b3 b4 b0_1 s:=by
 unfold Zee ZjF
 refine Zs b0_1 (ZBu b0 b0_2 b0_3 b1 b1_1 b1_2 b2 b2_1 b2_2 b3 b4 b0_1) _ _ ?_ ?_ s (by unfold Zl;omega)
 ·intro i s d hi hd
  have e1:decide ((i:Int)<(b0_1.length:Int))=true:=dT0 (by omega)
  have e2:decide (0≤(i:Int))=true:=dT0 (by omega)
  have e3:Int.toNat (i:Int)=i:=tN0 i
  have e4:=Zq hi (Nat.le_of_lt hl)
  show VU ((i:Int)) (b0) (b0_1) (b0_2) (b0_3) (b1) (b1_1) (b1_2) (b2) (b2_1) (b2_2) (b3) (b4) (s)=upd _ (ZdH b0 b0_2 b0_3 b1 b1_1 b1_2 b2 b2_1 b2_2 b3 b4 b0_1 i s d)
  unfold VU ZdH
  simp only [e1,e2,e3,e4,hd,cond_true,cond_false,Zb,ZC,ZF,ZD,ZI,ZJ,ZE]
 ·intro s
  have e1:decide ((b0_1.length:Int)<(b0_1.length:Int))=false:=dF0 (by omega)
  show VU ((b0_1.length:Int)) (b0) (b0_1) (b0_2) (b0_3) (b1) (b1_1) (b1_2) (b2) (b2_1) (b2_2) (b3) (b4) (s)=_
  unfold VU Zjq
  rw [e1]
  rfl
def ZfA (u:U) (c:C):E:=(true,List.replicate c.1.toNat (0,0),u.1.map (fun n=>(n,n)),List.replicate u.2.1.length (0,0),0,0)
theorem Ztn {α Y:Type} {f:Nat→List I→α→Option (List I⊕Y)} {fin:List I→Option Y} {F:α→I} {L:List α} (h:∀ j s d,d∈L→s.length≤1000→f j s d=some (.inl (s++[F d]))) :
  ∀ (l:List α) (j:Nat) (s:List I),(∀ d∈l,d∈L)→s.length+l.length≤1000→Zp f fin j l s=fin (s++l.map F)
 | [],j,s,_,_=>by simp [Zp]
 | d::r,j,s,hL,hs=>by
  rw [List.length_cons] at hs
  rw [Qq (h j s d (hL d (by simp)) (by omega)),Ztn h r (j+1) (s++[F d]) (fun x hx=>hL x (by simp [hx])) (by rw [List.length_append];simp;omega),List.map_cons,List.append_assoc]
  rfl
theorem ZKv (n:Int) (h0:0≤n) (h:n≤1000):ZzC n=some (List.replicate n.toNat (0,0)):=by
 unfold ZzC
 have e:(if 0>n then 0 else n)=n:=if_neg (by omega)
 rw [e,dT0 (by unfold lim;omega)]
 rfl
theorem ZKu (u:U) (t:Int) (hu:unitOK u) (ht:0≤t) {c:C} (hc:u.2.2.2[t.toNat]? = some c):ZzA u t=some (ZfA u c):=by
 have hlt:t.toNat<u.2.2.2.length:=(List.getElem?_eq_some_iff.1 hc).1
 have cv:=(hu.ts c (mG0 hc)).v
 have ua:=hu.a
 have ug:=hu.g
 unfold ZzA Zos
 rw [dF0 (by omega),dF0 (by omega),dT0 (by omega),hc]
 simp only [cond_false,cond_true,Zb,ZKv c.1 cv.1 (by omega),ZKv (u.2.1.length:Int) (by omega) (by omega),tN0]
 rw [ZF9 _ _ _ _ _ _ _ _ u.1 [] (by omega)]
 unfold ZlZ
 rw [Ztn (F:=fun n=>(n,n)) (L:=u.1) (fun j s d hd hs=>?_) u.1 0 [] (fun _ h=>h) (by simp;omega)]
 ·rfl
 ·unfold ZfZ
  rw [ZST d (hu.gs d hd)]
  simp only [Zb,List.length_cons,List.length_nil,Nat.zero_add,ZH2 hs,cond_true]
theorem ZEX (u:U) (t:Int) (hu:unitOK u) (ht:0≤t) {c:C} (hc:u.2.2.2[t.toNat]? = some c):ZuF u t=some (ZfA u c):=by
 have hlt:t.toNat<u.2.2.2.length:=(List.getElem?_eq_some_iff.1 hc).1
 have cv:=(hu.ts c (mG0 hc)).v
 have ua:=hu.a
 have ug:=hu.g
 have h0:Zec (t,0,u.1,u.2.1,u.2.2.1,u.2.2.2,false,0,0,true,0,0,[])=some (u.1,u.2.1,u.2.2.1,u.2.2.2,false,0,0,true,0,0,List.replicate c.1.toNat (0,0)):=by
  unfold Zec
  have e2:decide (0≤t)=true:=dT0 ht
  have:=Zs (step:=fun x:YO=>K6 x.1 x.2.1 x.2.2.1 x.2.2.2.1 x.2.2.2.2.1 x.2.2.2.2.2.1 x.2.2.2.2.2.2.1 x.2.2.2.2.2.2.2.1 x.2.2.2.2.2.2.2.2.1 x.2.2.2.2.2.2.2.2.2.1 x.2.2.2.2.2.2.2.2.2.2.1 x.2.2.2.2.2.2.2.2.2.2.2.1 x.2.2.2.2.2.2.2.2.2.2.2.2)
   (List.replicate c.1.toNat ()) (fun i s=>(t,(i:Int),u.1,u.2.1,u.2.2.1,u.2.2.2,false,0,0,true,0,0,s))
   (fun i s _=>bif decide ((s.length+[((0,0):I)].length+1)*16≤lim) then some (.inl (s++[(0,0)])) else none) (fun s=>some (u.1,u.2.1,u.2.2.1,u.2.2.2,false,0,0,true,0,0,s)) ?_ ?_ [] (n:=Zl) (by rw [List.length_replicate];unfold Zl;omega)
  ·refine this.trans ?_
   rw [Ztn (F:=fun _=>((0,0):I)) (L:=List.replicate c.1.toNat ()) (fun j s d hd hs=>?_) (List.replicate c.1.toNat ()) 0 [] (fun _ h=>h) (by simp;omega)]
   ·simp
   ·simp only [List.length_cons,List.length_nil,Nat.zero_add,ZH2 hs,cond_true]
  ·intro i s d hi hd
   rw [List.length_replicate] at hi
   show K6 t (i:Int) u.1 u.2.1 u.2.2.1 u.2.2.2 false 0 0 true 0 0 s=_
   unfold K6
   have e4:=Zq (i:=i) (n:=c.1.toNat) hi (by omega)
   rw [e2,cond_true,hc,Zb,dT0 (show (i:Int)<c.1 by omega),cond_true,e4]
   cases decide ((s.length+[((0,0):I)].length+1)*16≤lim)<;>rfl
  ·intro s
   rw [List.length_replicate]
   show K6 t (c.1.toNat:Int) u.1 u.2.1 u.2.2.1 u.2.2.2 false 0 0 true 0 0 s=_
   unfold K6
   rw [e2,cond_true,hc,Zb,dF0 (show ¬ ((c.1.toNat:Int)<c.1) by omega)]
   rfl
 unfold ZuF
 rw [dF0 (by omega),dF0 (by omega)]
 simp only [cond_false]
 rw [h0]
 simp only [Zb]
 rw [ZBh _ _ _ _ _ _ _ _ _ _ u.1 [] (by omega)]
 unfold ZjE
 rw [Ztn (F:=fun n=>(n,n)) (L:=u.1) (fun j s d hd hs=>?_) u.1 0 [] (fun _ h=>h) (by simp;omega)]
 ·simp only [Zjp,Zb,List.nil_append]
  rw [ZBi _ _ _ _ _ _ _ _ _ _ _ u.2.1 [] (by omega)]
  unfold ZjF
  rw [Ztn (F:=fun _=>((0,0):I)) (L:=u.2.1) (fun j s d hd hs=>?_) u.2.1 0 [] (fun _ h=>h) (by simp;omega)]
  ·simp only [Zjq,Zb,List.nil_append,List.map_const']
   rfl
  ·unfold ZdH
   simp only [List.length_cons,List.length_nil,Nat.zero_add,ZH2 hs,cond_true]
 ·unfold ZdG
  simp only [List.length_cons,List.length_nil,Nat.zero_add,ZH2 hs,cond_true]
theorem ZLh (u:U) (t:Int) (hu:unitOK u) {c:C} (hc:u.2.2.2[t.toNat]? = some c):envOK u t (ZfA u c):=by
 have cv:=(hu.ts c (mG0 hc)).v
 refine ⟨⟨c,hc,by simp [ZfA];omega⟩,by simp [ZfA],by simp [ZfA],by simp [ZfA],by simp [ZfA],fun x hx=>?_⟩
 simp only [ZfA,List.mem_append,List.mem_map,List.mem_replicate] at hx
 rcases hx with (⟨_,rfl⟩ | ⟨n,hn,rfl⟩) | ⟨_,rfl⟩
 ·exact ⟨by decide,by decide⟩
 ·have hf:=JH.1 (hu.gs n hn)
  exact ⟨Zjv hf.1 (Int.le_refl _) hf.2,Z8 (Int.le_refl _)⟩
 ·exact ⟨by decide,by decide⟩
def insR (n:Int):List Int→List Int
 | []=>[n]
 | x::r=>if x<n then x::insR n r else if x=n then x::r else n::x::r
def layS (l:List Int) (n:Int):List Int:=bif fitB n then insR n l else l
theorem ZLn (n:Int):∀ (l:List Int) (x:Int),x∈insR n l↔x=n∨x∈l
 | [],x=>by simp [insR]
 | y::r,x=>by
  unfold insR
  split
  ·rw [List.mem_cons,ZLn n r x,List.mem_cons]
   exact ⟨fun h=>h.elim (fun k=>.inr (.inl k)) (fun k=>k.elim .inl (fun q=>.inr (.inr q))),fun h=>h.elim (fun k=>.inr (.inl k)) (fun k=>k.elim .inl (fun q=>.inr (.inr q)))⟩
  ·split
   ·rename_i h
    rw [List.mem_cons]
    exact ⟨.inr,fun k=>k.elim (fun q=>.inl (q.trans h.symm)) id⟩
   ·simp only [List.mem_cons]
theorem ZPv (n:Int):∀ (l:List Int),l.Pairwise (· < ·)→(insR n l).Pairwise (· < ·)
 | [],_=>List.pairwise_singleton _ _
 | y::r,h=>by
  rw [List.pairwise_cons] at h
  unfold insR
  split
  ·rename_i hy
   rw [List.pairwise_cons]
   refine ⟨fun x hx=>?_,ZPv n r h.2⟩
   rcases (ZLn n r x).1 hx with rfl | k
   ·exact hy
   ·exact h.1 x k
  ·split
   ·exact List.pairwise_cons.2 h
   ·rw [List.pairwise_cons]
    refine ⟨fun x hx=>?_,List.pairwise_cons.2 h⟩
    rcases List.mem_cons.1 hx with rfl | k
    ·omega
    ·have:=h.1 x k;omega
theorem ZSL (n:Int):∀ l:List Int,(insR n l).length≤l.length+1
 | []=>by simp [insR]
 | y::r=>by
  unfold insR
  have:=ZSL n r
  split
  ·simp only [List.length_cons];omega
  ·split<;>simp
def Zlp (n:Int):List Int→Nat
 | []=>0
 | x::r=>if x<n then Zlp n r+1 else 0
theorem ZW8 (n:Int):∀ l:List Int,Zlp n l≤l.length∧insR n l=(if l[Zlp n l]? = some n then l else l.take (Zlp n l)++[n]++l.drop (Zlp n l))
 | []=>⟨Nat.le_refl _,rfl⟩
 | x::r=>by
  obtain ⟨h1,h2⟩:=ZW8 n r
  unfold Zlp insR
  by_cases hx:x<n
  ·rw [if_pos hx,if_pos hx,h2]
   refine ⟨by simp;omega,?_⟩
   simp only [List.getElem?_cons_succ,List.take_succ_cons,List.drop_succ_cons]
   split<;>simp
  ·rw [if_neg hx,if_neg hx]
   refine ⟨Nat.zero_le _,?_⟩
   simp only [List.getElem?_cons_zero,Option.some.injEq,List.take_zero,List.drop_zero]
   split<;>simp
theorem ZZW (n:Int) (L:List Int):∀ (l:List Int) (j:Nat),j+l.length=L.length→Zp (fun i s d=>Yo n L i d) (fun s=>ZmU n L) j l ()=some (L,n,((j+Zlp n l:Nat):Int))
 | [],j,h=>by
  have:j=L.length:=by simpa using h
  subst this
  rfl
 | d::r,j,h=>by
  rw [List.length_cons] at h
  by_cases hd:d<n
  ·rw [Qq (s':=()) (by unfold Yo;rw [dT0 hd];rfl),ZZW n L r (j+1) (by omega)]
   simp only [Zlp,if_pos hd]
   rw [show j+1+Zlp n r=j+(Zlp n r+1) by omega]
  ·have e:Yo n L j d=some (.inr (L,n,(j:Int))):=by unfold Yo;rw [dF0 hd];rfl
   simp only [Zp,e]
   unfold Zlp
   rw [if_neg hd];rfl
theorem Z6M {n:Nat} (h:n≤100000):decide ((n+1)*8≤lim)=true:=dT0 (by unfold lim;omega)
theorem ZnH (l:List Int) (n:Int) (hl:l.length≤10000):ZeE l n=some (layS l n):=by
 unfold ZeE layS Zo
 rw [Qf n]
 cases fitB n
 ·rfl
 simp only [Zb,Bool.not_true,cond_false,cond_true]
 have:=ZIm n l () (by omega)
 rw [this]
 unfold Znp
 rw [ZZW n l l 0 (by simp),Nat.zero_add]
 obtain ⟨h1,h2⟩:=ZW8 n l
 rw [h2]
 generalize Zlp n l=p at h1
 have c0:decide ((0:Int)≤0∧0≤(p:Int)∧(p:Int)≤(l.length:Int))=true:=dT0 (by omega)
 have c1:decide (0≤(p:Int)∧(p:Int)≤(l.length:Int)∧(l.length:Int)≤(l.length:Int))=true:=dT0 (by omega)
 have l1:∀ k,k≤30000→decide ((k+1)*8≤lim)=true:=fun k hk=>Z6M (by omega)
 have t1:(List.drop (Int.toNat 0) (List.take p l)).length≤10000:=by simp;omega
 have t2:(List.drop p (List.take l.length l)).length≤10000:=by simp;omega
 have fin:∀ (q:Option (List Int)),q=some ([]++List.drop (Int.toNat 0) (List.take p l)++[n]++List.drop p (List.take l.length l))→q=some (List.take p l++[n]++List.drop p l):=fun q hq=>by rw [hq];simp
 by_cases hp:p<l.length
 ·have e1:decide ((p:Int)<(l.length:Int))=true:=dT0 (by omega)
  have e2:decide (0≤(p:Int))=true:=dT0 (by omega)
  have e3:l[p]? = some l[p]:=List.getElem?_eq_getElem hp
  by_cases hn:l[p]=n
  ·simp only [Zb,e1,e2,e3,cond_true,tN0,hn,beq_self_eq_true,if_true]
  ·have e4:(l[p]==n)=false:=by simpa using hn
   rw [e3,if_neg (fun k=>hn (Option.some.inj k))]
   apply fin
   simp only [Zb,e1,e2,e3,e4,c0,c1,cond_true,cond_false,tN0]
   rw [l1 _ (by simp;omega),l1 _ (by simp;omega),l1 _ (by simp;omega)]
   rfl
 ·have e1:decide ((p:Int)<(l.length:Int))=false:=dF0 (by omega)
  have e3:l[p]? = none:=List.getElem?_eq_none (by omega)
  rw [e3,if_neg (fun k=>nomatch k)]
  apply fin
  simp only [Zb,e1,c0,c1,cond_true,cond_false,tN0]
  rw [l1 _ (by simp;omega),l1 _ (by simp;omega),l1 _ (by simp;omega)]
  rfl
section
section
variable [RT] {P:Program}
def rowT1 (t:Nat) (x:Tm×Hp):Tm×Hp:=match getT x.1 t with
 | .row id=>match Zr x.2.blks id with
  | some (.row e l)=>((t,.sl e l)::x.1,⟨delB x.2.blks id,x.2.c⟩)
  | _=>x
 | _=>x
section
variable {ok:Nat→Prop} {hdr0 hdr:Nat→Value} {S0 S:Stb} {h0 h:Hp} {w0 w:World} {a0 a:Act} {T:Tm}
def rowB1 (id j:Nat) (h:Hp):Hp:=match Zr h.blks id with
 | some (.box cs)=>match cs[j]? with
  | some (.row k)=>match Zr h.blks k with
   | some (.row e l)=>⟨setB (delB h.blks k) id (.box (cs.set j (.sl e l))),h.c⟩
   | _=>h
  | _=>h
 | _=>h
theorem ZTp {hdr:Nat→Value} {S:Stb} {b:AV}:∀ {cs:List AV} {vs:List Value} (j:Nat),VReps hdr S cs vs→(∀ v,vs[j]? = some v→VRep hdr S b v)→VReps hdr S (cs.set j b) vs
 | _,_,_,.nil,_=>.nil
 | _,_,0,.cons a v aZs vs h h',k=>.cons b v aZs vs (k v rfl) h'
 | _,_,j+1,.cons a v aZs vs h h',k=>.cons a v _ vs h (ZTp j h' k)
theorem ZPu {b:AV} (hb:b.ids=[]):∀ (cs:List AV) (j n:Nat),n∈AV.idsL (cs.set j b)→n∈AV.idsL cs
 | [],_,_,h=>h
 | a::r,0,n,h=>by
  simp only [List.set_cons_zero,AV.idsL,hb,List.nil_append] at h
  simp only [AV.idsL,List.mem_append];exact .inr h
 | a::r,j+1,n,h=>by
  simp only [List.set_cons_succ,AV.idsL,List.mem_append] at h ⊢
  exact h.imp id (ZPu hb r j n)
theorem Left.rowB1 (l:Left P false ok hdr0 S0 h0 w0 a0 h T hdr S a w) (id j:Nat):∃ S',Left P false ok hdr0 S0 h0 w0 a0 (Go.Proofs.YtbdcblpjemmipaaGreat.Ex.rowB1 id j h) T hdr S' a w:=by
 unfold Go.Proofs.YtbdcblpjemmipaaGreat.Ex.rowB1
 split
 case h_2=>exact ⟨S,l⟩
 rename_i cs hf
 split
 case h_2=>exact ⟨S,l⟩
 rename_i k hk
 split
 case h_2=>exact ⟨S,l⟩
 rename_i e x hx
 have hne:id≠k:=fun q=>by rw [q,hx] at hf;cases hf
 obtain ⟨S',p,hd⟩:=ZBn (tr:=false) l.post.real l.post.ment hx
 have hb:=l.post.real.blk id _ hf
 cases hb with | box _ b vs et hh hw hr=>
 have hf2:Zr (delB h.blks k) id=some (.box cs):=by rw [Zco,if_neg hne];exact hf
 have hr2:VReps hdr S' (cs.set j (.sl e x)) vs:=ZTp j (hr.mono p.step.sle fun _ _=>rfl) fun v hv=>by
  obtain ⟨v',hv',hrep⟩:=hr.get j _ hk
  rw [hv] at hv';cases hv'
  cases hrep with | row _ ao len cap hh2=>
  rw [hh2] at hd
  exact .sl e x _ hd
 have p2:=Zph (tr:=false) p.real p.ment id (.box (cs.set j (.sl e x))) _ hf2 (fun n hn=>.inl ((l.post.ment id _ hf).2 n (ZPu rfl cs j n hn))) w b (by rw [hh];rfl) rfl rfl rfl rfl (fun _ _=>rfl) (.box _ b vs et hh hw hr2)
 refine ⟨S',l.trans ⟨p.trans p2,fun s=>(l.tmps s).mono p.step.sle fun _ _=>rfl,fun s n hn=>.inl (l.tok s n hn),rfl,rfl⟩⟩
end
end
end
abbrev HB:=((List Int)×Int×(List Int)×(List Int)×Int×(List C))
abbrev JD:=((List Int)×(List Int)×(List Int)×Int×(List C))
def Zak (s3:List Int) (s4:Int) (b0 b0_1:List Int) (b0_2:Int) (b0_3:List C):Option (((List Int)×Int×(List Int)×(List Int)×Int×(List C))⊕((List Int)×(List Int)×(List Int)×Int×(List C))):=bif decide (s4<(b0.length:Int)) then bif decide (0≤s4) then Za b0[s4.toNat]? none fun d11=>Za (KP (s3,d11,())) none fun d12=>some (.inl (d12,IntKind.i64.wrap (s4+1),b0,b0_1,b0_2,b0_3)) else none else some (.inr (s3,b0,b0_1,b0_2,b0_3))
def Zrm:HB→Option (HB⊕JD):=fun (a,b,c,d,e,f)=>Zak a b c d e f
def Zbl (x:HB):Option JD:=Zh Zrm Zl x
abbrev HC:=((List Int)×Int×(List Int)×(List Int)×Int×(List C))
abbrev JF:=((List Int)×(List Int)×(List Int)×Int×(List C))
def Zal (s3:List Int) (s5:Int) (b0 b0_1:List Int) (b0_2:Int) (b0_3:List C):Option (((List Int)×Int×(List Int)×(List Int)×Int×(List C))⊕((List Int)×(List Int)×(List Int)×Int×(List C))):=bif decide (s5<(b0_1.length:Int)) then bif decide (0≤s5) then Za b0_1[s5.toNat]? none fun d11=>Za (KP (s3,d11,())) none fun d12=>bif decide (0≤s5) then Za b0_1[s5.toNat]? none fun d13=>Za (KP (d12,IntKind.i64.wrap (d13 - 1),())) none fun d14=>some (.inl (d14,IntKind.i64.wrap (s5+1),b0,b0_1,b0_2,b0_3)) else none else none else some (.inr (s3,b0,b0_1,b0_2,b0_3))
def Zrn:HC→Option (HC⊕JF):=fun (a,b,c,d,e,f)=>Zal a b c d e f
def Zbm (x:HC):Option JF:=Zh Zrn Zl x
abbrev HD:=((List Int)×Int×Int×(List Int)×(List Int)×Int×(List C))
abbrev Zdz:=((List Int)×Int×(List Int)×(List Int)×Int×(List C))
def Y0 (s3:List Int) (s6 s7:Int) (b0 b0_1:List Int) (b0_2:Int) (b0_3:List C):Option (((List Int)×Int×Int×(List Int)×(List Int)×Int×(List C))⊕((List Int)×Int×(List Int)×(List Int)×Int×(List C))):=bif decide (0≤s6) then Za b0_3[s6.toNat]? none fun d12=>bif decide (s7<(List.length d12.2:Int)) then bif decide (0≤s6) then Za b0_3[s6.toNat]? none fun d13=>bif decide (0≤s7) then Za d13.2[s7.toNat]? none fun d14=>bif d14.1==1 then Za (KP (s3,d14.2.2.2.2.2.1,())) none fun d15=>Za (KP (d15,IntKind.i64.wrap (d14.2.2.2.2.2.1 - 1),())) none fun d16=>Za (KP (d16,IntKind.i64.wrap (d14.2.2.2.2.2.1+1),())) none fun d17=>some (.inl (d17,s6,IntKind.i64.wrap (s7+1),b0,b0_1,b0_2,b0_3)) else some (.inl (s3,s6,IntKind.i64.wrap (s7+1),b0,b0_1,b0_2,b0_3)) else none else none else some (.inr (s3,s6,b0,b0_1,b0_2,b0_3)) else none
def ZeZ:HD→Option (HD⊕Zdz):=fun (a,b,c,d,e,f,g)=>Y0 a b c d e f g
def Zbn (x:HD):Option Zdz:=Zh ZeZ Zl x
abbrev Zby:=((List Int)×Int×(List Int)×(List Int)×Int×(List C))
abbrev Zdy:=(List Int)
def Zk9 (s3:List Int) (s6:Int) (b0 b0_1:List Int) (b0_2:Int) (b0_3:List C):Option (((List Int)×Int×(List Int)×(List Int)×Int×(List C))⊕(List Int)):=bif decide (s6<(b0_3.length:Int)) then Za (Zbn (s3,s6,0,b0,b0_1,b0_2,b0_3)) none fun d11=>some (.inl (d11.1,IntKind.i64.wrap (d11.2.1+1),d11.2.2.1,d11.2.2.2.1,d11.2.2.2.2.1,d11.2.2.2.2.2)) else some (.inr s3)
def Zan:Zby→Option (Zby⊕Zdy):=fun (a,b,c,d,e,f)=>Zk9 a b c d e f
def ZfX (x:Zby):Option Zdy:=Zh Zan Zl x
def ZqA (a0:U):Option (List Int):=Za (Zbl ([-1,0,1],0,a0)) none fun d6=>Za (Zbm (d6.1,0,d6.2)) none fun d7=>Za (ZfX (d7.1,0,d7.2)) none fun d8=>some d8
def Zjk (x:U×Unit):Option (List Int):=ZqA x.1
def Zez (b0_1:List Int) (b0_2:Int) (b0_3:List C) (b0:List Int) (i:Nat) (s3:List Int) (d:Int):Option ((List Int)⊕JD):=
 Za (KP (s3,d,())) (none) fun d12=>
  some (.inl (d12))
def Zqq (b0_1:List Int) (b0_2:Int) (b0_3:List C) (b0 s3:List Int):Option JD:=
 some (s3,b0,b0_1,b0_2,b0_3)
abbrev ZDY (b0_1:List Int) (b0_2:Int) (b0_3:List C) (b0:List Int) (i:Nat) (s:List Int):HB:=(s,(i:Int),b0,b0_1,b0_2,b0_3)
def ZkT (b0_1:List Int) (b0_2:Int) (b0_3:List C) (b0 s:List Int):Option JD:=Zp (fun i s d=>Zez b0_1 b0_2 b0_3 b0 i s d) (fun s=>Zqq b0_1 b0_2 b0_3 b0 s) 0 b0 s
theorem ZDK (b0_1:List Int) (b0_2:Int) (b0_3:List C) (b0 s:List Int) (hl:b0.length<9223372036854775807):Zbl (s,0,b0,b0_1,b0_2,b0_3)=ZkT b0_1 b0_2 b0_3 b0 s:=by
 unfold Zbl ZkT
 refine Zs b0 (ZDY b0_1 b0_2 b0_3 b0) _ _ ?_ ?_ s (by unfold Zl;omega)
 ·intro i s d hi hd
  have e1:decide ((i:Int)<(b0.length:Int))=true:=dT0 (by omega)
  have e2:decide (0≤(i:Int))=true:=dT0 (by omega)
  have e3:Int.toNat (i:Int)=i:=tN0 i
  have e4:=Zq hi (Nat.le_of_lt hl)
  show Zak (s) ((i:Int)) (b0) (b0_1) (b0_2) (b0_3)=upd _ (Zez b0_1 b0_2 b0_3 b0 i s d)
  unfold Zak Zez
  simp only [e1,e2,e3,e4,hd,cond_true,cond_false,Zb,ZC,ZF,ZD,ZI,ZJ,ZE]
 ·intro s
  have e1:decide ((b0.length:Int)<(b0.length:Int))=false:=dF0 (by omega)
  show Zak (s) ((b0.length:Int)) (b0) (b0_1) (b0_2) (b0_3)=_
  unfold Zak Zqq
  rw [e1]
  rfl
def ZeA (b0:List Int) (b0_2:Int) (b0_3:List C) (b0_1:List Int) (i:Nat) (s3:List Int) (d:Int):Option ((List Int)⊕JF):=
 Za (KP (s3,d,())) (none) fun d12=>
  Za (KP (d12,IntKind.i64.wrap (d - 1),())) (none) fun d14=>
  some (.inl (d14))
def Zqr (b0:List Int) (b0_2:Int) (b0_3:List C) (b0_1 s3:List Int):Option JF:=
 some (s3,b0,b0_1,b0_2,b0_3)
abbrev ZDZ (b0:List Int) (b0_2:Int) (b0_3:List C) (b0_1:List Int) (i:Nat) (s:List Int):HC:=(s,(i:Int),b0,b0_1,b0_2,b0_3)
def ZkU (b0:List Int) (b0_2:Int) (b0_3:List C) (b0_1 s:List Int):Option JF:=Zp (fun i s d=>ZeA b0 b0_2 b0_3 b0_1 i s d) (fun s=>Zqr b0 b0_2 b0_3 b0_1 s) 0 b0_1 s
theorem ZDL (b0:List Int) (b0_2:Int) (b0_3:List C) (b0_1 s:List Int) (hl:b0_1.length<9223372036854775807):Zbm (s,0,b0,b0_1,b0_2,b0_3)=ZkU b0 b0_2 b0_3 b0_1 s:=by
 unfold Zbm ZkU
 refine Zs b0_1 (ZDZ b0 b0_2 b0_3 b0_1) _ _ ?_ ?_ s (by unfold Zl;omega)
 ·intro i s d hi hd
  have e1:decide ((i:Int)<(b0_1.length:Int))=true:=dT0 (by omega)
  have e2:decide (0≤(i:Int))=true:=dT0 (by omega)
  have e3:Int.toNat (i:Int)=i:=tN0 i
  have e4:=Zq hi (Nat.le_of_lt hl)
  show Zal (s) ((i:Int)) (b0) (b0_1) (b0_2) (b0_3)=upd _ (ZeA b0 b0_2 b0_3 b0_1 i s d)
  unfold Zal ZeA
  simp only [e1,e2,e3,e4,hd,cond_true,cond_false,Zb,ZC,ZF,ZD,ZI,ZJ,ZE]
 ·intro s
  have e1:decide ((b0_1.length:Int)<(b0_1.length:Int))=false:=dF0 (by omega)
  show Zal (s) ((b0_1.length:Int)) (b0) (b0_1) (b0_2) (b0_3)=_
  unfold Zal Zqr
  rw [e1]
  rfl
theorem Zik (l:List Int) (n:Int):(layS l n).length≤l.length+1:=by
 unfold layS
 cases fitB n
 ·simp
 ·exact ZSL n l
theorem ZZV {l:List Int} (h:l.Pairwise (· < ·)) (n:Int):(layS l n).Pairwise (· < ·):=by
 unfold layS
 cases fitB n
 ·exact h
 ·exact ZPv n l h
theorem Z1z (l:List Int) (n x:Int):x∈layS l n↔(x=n∧fitB n=true)∨x∈l:=by
 unfold layS
 cases h:fitB n
 ·simp
 ·simp [ZLn]
theorem ZLp:∀ (es l:List Int),(es.foldl layS l).length≤l.length+es.length
 | [],l=>Nat.le_refl _
 | e::r,l=>by
  have:=ZLp r (layS l e)
  have:=Zik l e
  simp only [List.foldl_cons,List.length_cons];omega
theorem ZPy:∀ (es:List Int) {l:List Int},l.Pairwise (· < ·)→(es.foldl layS l).Pairwise (· < ·)
 | [],_,h=>h
 | e::r,_,h=>ZPy r (ZZV h e)
theorem ZS0 (x:Int):∀ (es l:List Int),x∈es.foldl layS l↔(x∈es∧fitB x=true)∨x∈l
 | [],l=>by simp
 | e::r,l=>by
  rw [List.foldl_cons,ZS0 x r,Z1z,List.mem_cons]
  constructor
  ·rintro (⟨h,k⟩ | ⟨rfl,k⟩ | h)
   ·exact .inl ⟨.inr h,k⟩
   ·exact .inl ⟨.inl rfl,k⟩
   ·exact .inr h
  ·rintro (⟨rfl | h,k⟩ | h)
   ·exact .inr (.inl ⟨rfl,k⟩)
   ·exact .inl ⟨h,k⟩
   ·exact .inr (.inr h)
def actS (l:List Int) (a:A):List Int:=bif a.1==1 then layS (layS (layS l a.2.2.2.2.2.1) (a.2.2.2.2.2.1 - 1)) (a.2.2.2.2.2.1+1) else l
theorem ZRE (l:List Int) (a:A):(actS l a).length≤l.length+3:=by
 unfold actS
 have h1:=Zik l a.2.2.2.2.2.1
 have h2:=Zik (layS l a.2.2.2.2.2.1) (a.2.2.2.2.2.1 - 1)
 have h3:=Zik (layS (layS l a.2.2.2.2.2.1) (a.2.2.2.2.2.1 - 1)) (a.2.2.2.2.2.1+1)
 cases a.1==1
 ·simp only [cond_false];omega
 ·simp only [cond_true];omega
theorem ZRF:∀ (r:List A) (l:List Int),(r.foldl actS l).length≤l.length+3*r.length
 | [],l=>by simp
 | a::r,l=>by
  have:=ZRF r (actS l a)
  have:=ZRE l a
  simp only [List.foldl_cons,List.length_cons];omega
theorem Z3m (u:U) (l:List Int) (h:l.length+u.1.length≤10000):Zbl (l,0,u)=some (u.1.foldl layS l,u):=by
 have:=ZDK u.2.1 u.2.2.1 u.2.2.2 u.1 l (by omega)
 refine this.trans ?_
 unfold ZkT
 rw [ZhF (g:=layS) (fun s r=>s.length+r.length≤10000) (fun j s d r h=>?_) u.1 0 l h]
 ·rfl
 ·rw [List.length_cons] at h
  have:=Zik s d
  refine ⟨?_,by omega⟩
  have e1:=ZnH s d (by omega)
  simp only [Zez,KP,e1,Zb]
def arrS (l:List Int) (d:Int):List Int:=layS (layS l d) (d - 1)
theorem ZRG (l:List Int) (d:Int):(arrS l d).length≤l.length+2:=by
 unfold arrS
 have h1:=Zik l d
 have h2:=Zik (layS l d) (d - 1)
 omega
theorem Z4F (u:U) (l:List Int) (hu:∀ n∈u.2.1,1≤n∧n≤16) (h:l.length+2*u.2.1.length≤10000):Zbm (l,0,u)=some (u.2.1.foldl arrS l,u):=by
 have:=ZDL u.1 u.2.2.1 u.2.2.2 u.2.1 l (by omega)
 refine this.trans ?_
 unfold ZkU
 rw [ZhF (g:=arrS) (fun s r=>s.length+2*r.length≤10000∧∀ n∈r,1≤n∧n≤16) (fun j s d r h=>?_) u.2.1 0 l ⟨h,hu⟩]
 ·rfl
 ·have h':=h.1
  rw [List.length_cons] at h'
  have h1:=Zik s d
  have h2:=ZRG s d
  have hd:=h.2 d (by simp)
  refine ⟨?_,by omega,fun n hn=>h.2 n (by simp [hn])⟩
  have w:IntKind.i64.wrap (d - 1)=d - 1:=ZdN (by omega) (by omega)
  have e1:=ZnH s d (by omega)
  have e2:=ZnH (layS s d) (d - 1) (by omega)
  simp only [ZeA,KP,w,e1,e2,Zb]
  rfl
def bodyA {Y:Type} (s:List Int) (a:A):Option (List Int⊕Y):=bif a.1==1 then Za (ZeE s a.2.2.2.2.2.1) none fun p=>Za (ZeE p (IntKind.i64.wrap (a.2.2.2.2.2.1 - 1))) none fun q=>Za (ZeE q (IntKind.i64.wrap (a.2.2.2.2.2.1+1))) none fun r=>some (.inl r) else some (.inl s)
theorem Z1h {Y:Type} {s:List Int} {a:A} (h:s.length≤9000) (hf:fitB a.2.2.2.2.2.1=true):(bodyA s a:Option (List Int⊕Y))=some (.inl (actS s a)):=by
 have f:=JH.1 hf
 have w1:IntKind.i64.wrap (a.2.2.2.2.2.1 - 1)=a.2.2.2.2.2.1 - 1:=ZdN (by omega) (by omega)
 have w2:IntKind.i64.wrap (a.2.2.2.2.2.1+1)=a.2.2.2.2.2.1+1:=ZdN (by omega) (by omega)
 have h1:=Zik s a.2.2.2.2.2.1
 have h2:=Zik (layS s a.2.2.2.2.2.1) (a.2.2.2.2.2.1 - 1)
 have e1:=ZnH s a.2.2.2.2.2.1 (by omega)
 have e2:=ZnH (layS s a.2.2.2.2.2.1) (a.2.2.2.2.2.1 - 1) (by omega)
 have e3:=ZnH (layS (layS s a.2.2.2.2.2.1) (a.2.2.2.2.2.1 - 1)) (a.2.2.2.2.2.1+1) (by omega)
 unfold bodyA actS
 cases a.1==1
 ·rfl
 ·simp only [cond_true,w1,w2,e1,e2,e3,Zb]
theorem Z3l (u:U) (c:C) {i:Nat} (hc:u.2.2.2[i]? = some c) (hf:∀ a∈c.2,fitB a.2.2.2.2.2.1=true) (hn:c.2.length≤60) (l:List Int) (h:l.length≤8000) :
  Zbn (l,(i:Int),0,u)=some (c.2.foldl actS l,(i:Int),u):=by
 unfold Zbn
 have e0:decide (0≤(i:Int))=true:=dT0 (by omega)
 have:=Zs (step:=fun x:HD=>Y0 x.1 x.2.1 x.2.2.1 x.2.2.2.1 x.2.2.2.2.1 x.2.2.2.2.2.1 x.2.2.2.2.2.2) c.2 (fun j s=>(s,(i:Int),(j:Int),u.1,u.2.1,u.2.2.1,u.2.2.2)) (fun _ s a=>bodyA s a) (fun s=>some (s,(i:Int),u.1,u.2.1,u.2.2.1,u.2.2.2)) ?_ ?_ l (n:=Zl) (by unfold Zl;omega)
 ·refine this.trans ?_
  rw [ZhF (g:=actS) (fun s r=>s.length+3*r.length≤9000∧∀ a∈r,fitB a.2.2.2.2.2.1=true) (fun j s d r h=>?_) c.2 0 l ⟨by omega,hf⟩]
  have h1:=h.1
  rw [List.length_cons] at h1
  have:=ZRE s d
  exact ⟨Z1h (by omega) (h.2 d (by simp)),by omega,fun a ha=>h.2 a (by simp [ha])⟩
 ·intro j s d hj hd
  show Y0 s (i:Int) (j:Int) u.1 u.2.1 u.2.2.1 u.2.2.2=_
  have w:=Zq (i:=j) (n:=c.2.length) hj (by omega)
  have e1:decide ((j:Int)<(c.2.length:Int))=true:=dT0 (by omega)
  have e2:decide (0≤(j:Int))=true:=dT0 (by omega)
  simp only [ZeZ,Y0,e0,e1,e2,cond_true,tN0,hc,hd,Zb,w,KP,bodyA]
  cases d.1==1
  ·rfl
  ·simp only [cond_true]
   cases ZeE s d.2.2.2.2.2.1 with
   | none=>rfl
   | some p=>
    simp only [Zb]
    cases ZeE p (IntKind.i64.wrap (d.2.2.2.2.2.1 - 1)) with
    | none=>rfl
    | some q=>
     simp only [Zb]
     cases ZeE q (IntKind.i64.wrap (d.2.2.2.2.2.1+1))<;>rfl
 ·intro s
  show Y0 s (i:Int) (c.2.length:Int) u.1 u.2.1 u.2.2.1 u.2.2.2=_
  have e1:decide ((c.2.length:Int)<(c.2.length:Int))=false:=dF0 (by omega)
  simp only [ZeZ,Y0,e0,e1,cond_true,cond_false,tN0,hc,Zb]
  rfl
def thrS (l:List Int) (c:C):List Int:=c.2.foldl actS l
theorem Z4G (u:U) (hu:unitOK u) (l:List Int) (h:l.length≤7000):ZfX (l,0,u)=some (u.2.2.2.foldl thrS l):=by
 have ht:=hu.t
 have go:∀ (r:List C) (i:Nat) (s:List Int) (k:Nat),u.2.2.2.drop i=r→i+r.length=u.2.2.2.length→s.length+180*r.length≤8000→
   Zh Zan (k+r.length+1) (s,(i:Int),u)=some (r.foldl thrS s):=by
  intro r
  induction r with
  | nil=>
   intro i s k hd hi hs
   have e:decide ((i:Int)<(u.2.2.2.length:Int))=false:=dF0 (by simp at hi;omega)
   simp only [Zh,Zan,Zk9,e,cond_false]
   rfl
  | cons c r ih=>
   intro i s k hd hi hs
   rw [List.length_cons] at hi hs ⊢
   have hc:u.2.2.2[i]? = some c:=by
    have:=congrArg (fun q=>q[0]?) hd
    simpa using this
   have ho:=hu.ts c (mG0 hc)
   have e:decide ((i:Int)<(u.2.2.2.length:Int))=true:=dT0 (by omega)
   have w:=Zq (i:=i) (n:=u.2.2.2.length) (by omega) (by omega)
   have a1:=Z3l u c hc (fun a ha=>(ho.a a ha).n) ho.n.2 s (by omega)
   have a2:=ZRF c.2 s
   have:=ho.n.2
   rw [show k+(r.length+1)+1=(k+r.length+1)+1 by omega,Zh]
   have a1':Zbn (s,(i:Int),0,u.1,u.2.1,u.2.2.1,u.2.2.2)=some (c.2.foldl actS s,(i:Int),u):=a1
   simp only [Zan,Zk9,e,cond_true,a1',Zb,w]
   exact ih (i+1) (thrS s c) k (by rw [← List.drop_drop,hd];rfl) (by omega) (by show (c.2.foldl actS s).length+_≤_;omega)
 unfold ZfX
 have:=go u.2.2.2 0 l (Zl - u.2.2.2.length - 1) rfl (by simp) (by omega)
 rw [show Zl - u.2.2.2.length - 1+u.2.2.2.length+1=Zl by unfold Zl;omega] at this
 exact this
def Zt (u:U):List Int:=u.2.2.2.foldl thrS (u.2.1.foldl arrS (u.1.foldl layS [-1,0,1]))
theorem ZRH:∀ (r l:List Int),(r.foldl arrS l).length≤l.length+2*r.length
 | [],l=>by simp
 | a::r,l=>by
  have:=ZRH r (arrS l a)
  have:=ZRG l a
  simp only [List.foldl_cons,List.length_cons];omega
theorem ZId (u:U) (hu:unitOK u):ZqA u=some (Zt u):=by
 have g1:=hu.g
 have g2:=hu.a
 have l1:=ZLp u.1 [-1,0,1]
 have l2:=ZRH u.2.1 (u.1.foldl layS [-1,0,1])
 have l3:([-1,0,1]:List Int).length=3:=rfl
 unfold ZqA
 rw [Z3m u [-1,0,1] (by omega)]
 simp only [Zb]
 rw [Z4F u _ (fun n hn=>hu.ars n hn) (by omega)]
 simp only [Zb]
 rw [Z4G u hu _ (by omega)]
 rfl
def numA (a:A):List Int:=bif a.1==1 then [a.2.2.2.2.2.1,a.2.2.2.2.2.1 - 1,a.2.2.2.2.2.1+1] else []
def numC (c:C):List Int:=c.2.flatMap numA
def numD (d:Int):List Int:=[d,d - 1]
def allN (u:U):List Int:=u.1++(u.2.1.flatMap numD++u.2.2.2.flatMap numC)
theorem ZyP {α:Type} {f:List Int→α→List Int} {g:α→List Int} (h:∀ l a,f l a=(g a).foldl layS l):∀ (r:List α) (l:List Int),r.foldl f l=(r.flatMap g).foldl layS l
 | [],l=>rfl
 | a::r,l=>by rw [List.foldl_cons,h,ZyP h r,List.flatMap_cons,List.foldl_append]
theorem ZEa (u:U):Zt u=(allN u).foldl layS [-1,0,1]:=by
 have h1:∀ (l:List Int) (a:A),actS l a=(numA a).foldl layS l:=fun l a=>by
  unfold actS numA
  cases a.1==1<;>rfl
 have h2:∀ (l:List Int) (c:C),thrS l c=(numC c).foldl layS l:=fun l c=>ZyP h1 c.2 l
 unfold Zt allN
 rw [List.foldl_append,List.foldl_append,ZyP h2,ZyP (f:=arrS) (g:=numD) fun l d=>rfl]
theorem ZYW (u:U):(Zt u).Pairwise (· < ·):=by
 rw [ZEa]
 exact ZPy _ (by simp)
theorem Z0D (u:U) (x:Int):x∈Zt u↔(x∈allN u∧fitB x=true)∨x∈([-1,0,1]:List Int):=by rw [ZEa,ZS0]
def ZQc:List Sh:=[.dat tU]
def Zu3:Nat→List Nat:=fun c=>bif c.beq 0 then [1,3,15,16,17] else [1,3]
def Zu5:Nat→List Nat:=fun c=>bif c.beq 0 then [3,29,30,31,36,37,38] else [3,29,30,31]
def Zu4:Nat→List Nat:=fun c=>bif c.beq 0 then [3,29,30,31] else [3]
def ZtB:Nat→List Nat:=fun c=>bif c.beq 0 then [0,1,7,8] else [4]
def Zu6:Nat→List Nat:=fun c=>bif c.beq 0 then [0,1,5,6] else [0,5]
def HX:List Con:=[⟨70,ZrC,ZGz⟩,⟨71,Zow,Zz8⟩]
def ZhL:StS:=⟨[(1,.ptr 0 0),(3,.row 1),(15,.sl (.int .i64)),(16,.int .i64),(17,.int .i64)],[(0,.box [.sl (.int .i64),.sl (.int .i64),.int .i64,.sl tC]),(1,.row (.int .i64))],2⟩
def Zar:StS:=⟨[(1,.ptr 0 0),(3,.row 1)],[(0,.box [.sl (.int .i64),.sl (.int .i64),.int .i64,.sl tC]),(1,.row (.int .i64))],2⟩
abbrev Vy:=((List Int)×Int×Int×(List Int)×(List Int)×Int×(List C)×(List Int))
def ZFx:StD ZhL→Vy:=fun ((_,_,a,b,c,_),((d,e,f,g,_),h,_))=>(a,b,c,d,e,f,g,h)
def ZGD:Vy→StD ZhL:=fun (a,b,c,d,e,f,g,h)=>(((),(),a,b,c,()),((d,e,f,g,()),h,()))
abbrev JY:=((List Int)×(List Int)×Int×(List C)×(List Int))
def ZWz:StD Zar→JY:=fun ((_,_,_),((a,b,c,d,_),e,_))=>(a,b,c,d,e)
def ZjN:JY→StD Zar:=fun (a,b,c,d,e)=>(((),(),()),((a,b,c,d,()),e,()))
def ZbE (s15:List Int) (s16 s17:Int) (b0 b0_1:List Int) (b0_2:Int) (b0_3:List C) (b1:List Int):Option (((List Int)×Int×Int×(List Int)×(List Int)×Int×(List C)×(List Int))⊕((List Int)×(List Int)×Int×(List C)×(List Int))):=bif decide (s17<s16) then bif decide (0≤s17) then Za s15[s17.toNat]? none fun d14=>bif decide ((b1.length+[d14,IntKind.i64.wrap (d14 - 1)].length+1)*8≤lim) then some (.inl (s15,s16,IntKind.i64.wrap (s17+1),b0,b0_1,b0_2,b0_3,b1++[d14,IntKind.i64.wrap (d14 - 1)])) else none else none else some (.inr (b0,b0_1,b0_2,b0_3,b1))
def ZrY:Vy→Option (Vy⊕JY):=fun (a,b,c,d,e,f,g,h)=>ZbE a b c d e f g h
def ZcB (x:Vy):Option JY:=Zh ZrY Zl x
def Zxk:Nat→Tm→Prog (Nat×Tm):=(varP 0 (fun T h=>(rdS ZhL T h).map ZFx) ZcB (altE 2 Zar ZjN) (fun _ _=>.fail))
def Jc:Lpc:=⟨43,0,64,(fun base T=>.norm base (Zu3 0) T (Zxk base)),by kernel_rfl,by kernel_rfl,(loopU HX [] 40 1048576 8 (keep:=Zu3) (q:=Zxk) (by kernel_rfl) (Zv (s:=ZhL) (un:=ZGD) (by rfl) (fun _=>rfl) (Zn (s:=Zar) (un:=ZjN) (flat:=ZWz) (by rfl) (fun _=>rfl)) (step:=ZrY) (fun _=>by kernel_rfl) (fun _ _ e=>⟨_,e⟩) (Zm 2 Zar ZjN) (ZB.fail _ _)))⟩
abbrev Z0Q:=cxU HX [Jc] 40 1048576
def ZhN:StS:=⟨[(3,.row 0),(29,.sl tC),(30,.int .i64),(31,.int .i64),(36,.sl tA),(37,.int .i64),(38,.int .i64)],[(0,.row (.int .i64))],1⟩
def Zat:StS:=⟨[(3,.row 0),(29,.sl tC),(30,.int .i64),(31,.int .i64)],[(0,.row (.int .i64))],1⟩
abbrev Vz:=((List C)×Int×Int×(List A)×Int×Int×(List Int))
def ZFz:StD ZhN→Vz:=fun ((_,a,b,c,d,e,f,_),(g,_))=>(a,b,c,d,e,f,g)
def ZGF:Vz→StD ZhN:=fun (a,b,c,d,e,f,g)=>(((),a,b,c,d,e,f,()),(g,()))
abbrev JZ:=((List C)×Int×Int×(List Int))
def ZWB:StD Zat→JZ:=fun ((_,a,b,c,_),(d,_))=>(a,b,c,d)
def ZjP:JZ→StD Zat:=fun (a,b,c,d)=>(((),a,b,c,()),(d,()))
def KO (s29:List C) (s30 s31:Int) (s36:List A) (s37 s38:Int) (b0:List Int):Option (((List C)×Int×Int×(List A)×Int×Int×(List Int))⊕((List C)×Int×Int×(List Int))):=bif decide (s38<s37) then bif decide (0≤s38) then Za s36[s38.toNat]? none fun d13=>bif d13.1==1 then bif decide ((b0.length+[IntKind.i64.wrap (d13.2.2.2.2.2.1 - 1),d13.2.2.2.2.2.1,IntKind.i64.wrap (d13.2.2.2.2.2.1+1)].length+1)*8≤lim) then some (.inl (s29,s30,s31,s36,s37,IntKind.i64.wrap (s38+1),b0++[IntKind.i64.wrap (d13.2.2.2.2.2.1 - 1),d13.2.2.2.2.2.1,IntKind.i64.wrap (d13.2.2.2.2.2.1+1)])) else none else some (.inl (s29,s30,s31,s36,s37,IntKind.i64.wrap (s38+1),b0)) else none else some (.inr (s29,s30,s31,b0))
def ZbR:Vz→Option (Vz⊕JZ):=fun (a,b,c,d,e,f,g)=>KO a b c d e f g
def Vv (x:Vz):Option JZ:=Zh ZbR Zl x
def Zxm:Nat→Tm→Prog (Nat×Tm):=(varP 0 (fun T h=>(rdS ZhN T h).map ZFz) Vv (altE 6 Zat ZjP) (fun _ _=>.fail))
def Hg:Lpc:=⟨43,4,64,(fun base T=>.norm base (Zu5 0) T (Zxm base)),by kernel_rfl,by kernel_rfl,(loopU HX [Jc] 40 1048576 8 (keep:=Zu5) (q:=Zxm) (by kernel_rfl) (Zv (s:=ZhN) (un:=ZGF) (by rfl) (fun _=>rfl) (Zn (s:=Zat) (un:=ZjP) (flat:=ZWB) (by rfl) (fun _=>rfl)) (step:=ZbR) (fun _=>by kernel_rfl) (fun _ _ e=>⟨_,e⟩) (Zm 6 Zat ZjP) (ZB.fail _ _)))⟩
abbrev Z0P:=cxU HX [Jc,Hg] 40 1048576
def ZhM:StS:=⟨[(3,.row 0),(29,.sl tC),(30,.int .i64),(31,.int .i64)],[(0,.row (.int .i64))],1⟩
def Zas:StS:=⟨[(3,.row 0)],[(0,.row (.int .i64))],1⟩
abbrev ZcI:=((List C)×Int×Int×(List Int))
def ZFy:StD ZhM→ZcI:=fun ((_,a,b,c,_),(d,_))=>(a,b,c,d)
def ZGE:ZcI→StD ZhM:=fun (a,b,c,d)=>(((),a,b,c,()),(d,()))
abbrev Zeg:=(List Int)
def ZWA (d:StD Zas):Zeg:=(d.2.1)
def ZjO (x:Zeg):StD Zas:=(((),()),(x,()))
def Zl9 (s29:List C) (s30 s31:Int) (b0:List Int):Option (((List C)×Int×Int×(List Int))⊕(List Int)):=bif decide (s31<s30) then bif decide (0≤s31) then Za s29[s31.toNat]? none fun d10=>Za (Vv (s29,s30,s31,d10.2,(List.length d10.2:Int),0,b0)) none fun d11=>some (.inl (d11.1,d11.2.1,IntKind.i64.wrap (d11.2.2.1+1),d11.2.2.2)) else none else some (.inr b0)
def ZbQ:ZcI→Option (ZcI⊕Zeg):=fun (a,b,c,d)=>Zl9 a b c d
def Zhd (x:ZcI):Option Zeg:=Zh ZbQ Zl x
def Zxl:Nat→Tm→Prog (Nat×Tm):=(varP 0 (fun T h=>(rdS ZhM T h).map ZFy) Zhd (altE 4 Zas ZjO) (fun _ _=>.fail))
def ZdT:Lpc:=⟨43,2,64,(fun base T=>.norm base (Zu4 0) T (Zxl base)),by kernel_rfl,by kernel_rfl,(loopU HX [Jc,Hg] 40 1048576 8 (keep:=Zu4) (q:=Zxl) (by kernel_rfl) (Zv (s:=ZhM) (un:=ZGE) (by rfl) (fun _=>rfl) (Zn (s:=Zas) (un:=ZjO) (flat:=ZWA) (by rfl) (fun _=>rfl)) (step:=ZbQ) (fun _=>by kernel_rfl) (fun _ _ e=>⟨_,e⟩) (Zm 4 Zas ZjO) (ZB.fail _ _)))⟩
abbrev ZZx:=cxU HX [Jc,Hg,ZdT] 40 1048576
def Zf5:StS:=⟨[(0,.row 0),(1,.clo 68 [] []),(7,.int .i64),(8,.int .i64)],[(0,.row (.int .i64))],1⟩
def VZ:StS:=⟨[(4,.undef)],[(0,.row (.int .i64))],1⟩
def V1:StS:=⟨[(4,.int .i64)],[(0,.row (.int .i64))],1⟩
abbrev Ho:=(Int×Int×(List Int))
def ZCs:StD Zf5→Ho:=fun ((_,(_,_),a,b,_),(c,_))=>(a,b,c)
def ZEc:Ho→StD Zf5:=fun (a,b,c)=>(((),((),()),a,b,()),(c,()))
abbrev Jf:=(List Int)
def ZUO (d:StD VZ):Jf:=(d.2.1)
def Zip (x:Jf):StD VZ:=(((),()),(x,()))
abbrev Jg:=(Int×(List Int))
def ZUP (d:StD V1):Jg:=(d.1.1,d.2.1)
def Ziq (x:Jg):StD V1:=((x.1,()),(x.2,()))
def Kg (s7 s8:Int) (b0:List Int):Option ((Int×Int×(List Int))⊕((List Int)⊕(Int×(List Int)))):=bif decide (s8<s7) then bif decide (0≤s8) then Za b0[s8.toNat]? none fun d9=>Za b0[s8.toNat]? none fun d10=>bif decide (d10 < -2147483648) then some (.inr (.inr (s8,b0))) else bif decide (d10>2147483647) then some (.inr (.inr (s8,b0))) else some (.inl (s7,IntKind.i64.wrap (s8+1),b0)) else none else some (.inr (.inl b0))
def QR:Ho→Option (Ho⊕(Jf⊕Jg)):=fun (a,b,c)=>Kg a b c
def Q8 (x:Ho):Option (Jf⊕Jg):=Zh QR Zl x
def Zvi:Nat→Tm→Prog (Nat×Tm):=(varP 1 (fun T h=>(rdS Zf5 T h).map ZCs) Q8 (fun y=>.alt y (altE 2 VZ Zip) (altE 1 V1 Ziq)) (fun _ _=>.fail))
def Zm7:Lpc:=⟨103,0,19,(fun base T=>.norm base (ZtB 0) T (Zvi base)),by kernel_rfl,by kernel_rfl,(loopU HX [Jc,Hg,ZdT] 40 1048576 8 (keep:=ZtB) (q:=Zvi) (by kernel_rfl) (Zv (s:=Zf5) (un:=ZEc) (by rfl) (fun _=>rfl) (ZW (Zn (s:=VZ) (un:=Zip) (flat:=ZUO) (by rfl) (fun _=>rfl)) (Zn (s:=V1) (un:=Ziq) (flat:=ZUP) (by rfl) (fun _=>rfl))) (step:=QR) (fun _=>by kernel_rfl) (fun _ _ e=>⟨_,e⟩) (ZV (Zm 2 VZ Zip) (Zm 1 V1 Ziq)) (ZB.fail _ _)))⟩
abbrev Z0R:=cxU HX [Jc,Hg,ZdT,Zm7] 40 1048576
def ZhO:StS:=⟨[(0,.row 0),(1,.clo 68 [] []),(5,.int .i64),(6,.int .i64)],[(0,.row (.int .i64))],1⟩
def Zau:StS:=⟨[(0,.row 0),(5,.int .i64)],[(0,.row (.int .i64))],1⟩
abbrev ZcJ:=(Int×Int×(List Int))
def ZFA:StD ZhO→ZcJ:=fun ((_,(_,_),a,b,_),(c,_))=>(a,b,c)
def ZGG:ZcJ→StD ZhO:=fun (a,b,c)=>(((),((),()),a,b,()),(c,()))
abbrev Zeh:=(Int×(List Int))
def ZWC (d:StD Zau):Zeh:=(d.1.2.1,d.2.1)
def ZjQ (x:Zeh):StD Zau:=(((),x.1,()),(x.2,()))
def Zma (s5 s6:Int) (b0:List Int):Option ((Int×Int×(List Int))⊕(Int×(List Int))):=bif decide (s6<(b0.length:Int)) then bif decide (0≤s6) then Za b0[s6.toNat]? none fun d9=>Za b0[s6.toNat]? none fun d10=>bif decide (d10 < -2147483648) then some (.inl (s5,IntKind.i64.wrap (s6+1),b0)) else bif decide (d10>2147483647) then some (.inl (s5,IntKind.i64.wrap (s6+1),b0)) else bif decide (0≤s5) then Za b0[s5.toNat]? none fun d11=>Za b0[s5.toNat]? none fun d12=>some (.inl (IntKind.i64.wrap (s5+1),IntKind.i64.wrap (s6+1),b0.set s5.toNat d10)) else none else none else some (.inr (s5,b0))
def Jb:ZcJ→Option (ZcJ⊕Zeh):=fun (a,b,c)=>Zma a b c
def Zhe (x:ZcJ):Option Zeh:=Zh Jb Zl x
def Zxn:Nat→Tm→Prog (Nat×Tm):=(varP 1 (fun T h=>(rdS ZhO T h).map ZFA) Zhe (altE 2 Zau ZjQ) (fun _ _=>.fail))
def ZJx:Lpc:=⟨67,0,42,(fun base T=>.norm base (Zu6 0) T (Zxn base)),by kernel_rfl,by kernel_rfl,(loopU HX [Jc,Hg,ZdT,Zm7] 40 1048576 8 (keep:=Zu6) (q:=Zxn) (by kernel_rfl) (Zv (s:=ZhO) (un:=ZGG) (by rfl) (fun _=>rfl) (Zn (s:=Zau) (un:=ZjQ) (flat:=ZWC) (by rfl) (fun _=>rfl)) (step:=Jb) (fun _=>by kernel_rfl) (fun _ _ e=>⟨_,e⟩) (Zm 2 Zau ZjQ) (ZB.fail _ _)))⟩
def Zs9 (a0:U):Option (List Int):=bif decide (([-1,0,1].length+List.length a0.1+1)*8≤lim) then Za (ZcB (a0.2.1,(List.length a0.2.1:Int),0,a0.1,a0.2.1,a0.2.2.1,a0.2.2.2,[-1,0,1]++a0.1)) none fun d7=>Za (Zhd (d7.2.2.2.1,(d7.2.2.2.1.length:Int),0,d7.2.2.2.2)) none fun d8=>Za (Q8 ((d8.length:Int),0,d8)) none fun d9=>Sum.elim (fun e10=>bif decide (e10.length<4611686018427387904) then bif decide ((srtI e10).length<4611686018427387904) then some (List.drop 0 (List.take (Lib.compact (List.take (srtI e10).length (srtI e10))).length (cutI (srtI e10) (srtI e10).length))) else none else none) (fun e10=>bif e10.1 == -1 then bif decide (e10.2.length<4611686018427387904) then bif decide ((srtI e10.2).length<4611686018427387904) then some (List.drop 0 (List.take (Lib.compact (List.take (srtI e10.2).length (srtI e10.2))).length (cutI (srtI e10.2) (srtI e10.2).length))) else none else none else Za (Zhe (e10.1,IntKind.i64.wrap (e10.1+1),e10.2)) none fun d11=>bif decide (0≤d11.1∧d11.1≤(d11.2.length:Int)∧(d11.2.length:Int)≤(d11.2.length:Int)) then bif decide ((d11.2.length:Int).toNat≤d11.1.toNat) then bif decide ((0:Int)≤0∧0≤d11.1∧d11.1≤(d11.2.length:Int)) then bif decide (d11.1.toNat≤d11.2.length∧d11.2.length<4611686018427387904) then bif decide (d11.1.toNat≤(srtI (List.take d11.1.toNat d11.2)++List.drop d11.1.toNat d11.2).length∧(srtI (List.take d11.1.toNat d11.2)++List.drop d11.1.toNat d11.2).length<4611686018427387904) then some (List.drop 0 (List.take (Lib.compact (List.take d11.1.toNat (srtI (List.take d11.1.toNat d11.2)++List.drop d11.1.toNat d11.2))).length
 (cutI (srtI (List.take d11.1.toNat d11.2)++List.drop d11.1.toNat d11.2) d11.1.toNat))) else none else none else none else bif decide ((d11.2.length:Int).toNat≤d11.2.length) then bif decide ((0:Int)≤0∧0≤d11.1∧d11.1≤(↑(List.take d11.1.toNat d11.2++List.replicate ((d11.2.length:Int).toNat - d11.1.toNat) 0++List.drop (d11.2.length:Int).toNat d11.2).length:Int)) then bif decide (d11.1.toNat≤(List.take d11.1.toNat d11.2++List.replicate ((d11.2.length:Int).toNat - d11.1.toNat) 0++List.drop (d11.2.length:Int).toNat d11.2).length∧(List.take d11.1.toNat d11.2++List.replicate ((d11.2.length:Int).toNat - d11.1.toNat) 0++List.drop (d11.2.length:Int).toNat d11.2).length<4611686018427387904) then bif decide (d11.1.toNat≤(srtI (List.take d11.1.toNat (List.take d11.1.toNat d11.2++List.replicate ((d11.2.length:Int).toNat - d11.1.toNat) 0++List.drop (d11.2.length:Int).toNat d11.2))++List.drop d11.1.toNat (List.take d11.1.toNat d11.2++List.replicate ((d11.2.length:Int).toNat - d11.1.toNat) 0++List.drop (d11.2.length:Int).toNat d11.2)).length∧(srtI (List.take d11.1.toNat (List.take d11.1.toNat d11.2++List.replicate ((d11.2.length:Int).toNat - d11.1.toNat) 0++List.drop (d11.2.length:Int).toNat d11.2))++List.drop d11.1.toNat (List.take d11.1.toNat d11.2++List.replicate ((d11.2.length:Int).toNat - d11.1.toNat) 0++List.drop (d11.2.length:Int).toNat d11.2)).length<4611686018427387904) then some (List.drop 0 (List.take (Lib.compact (List.take d11.1.toNat (srtI (List.take d11.1.toNat (List.take d11.1.toNat d11.2++List.replicate ((d11.2.length:Int).toNat - d11.1.toNat) 0++List.drop (d11.2.length:Int).toNat d11.2))++List.drop d11.1.toNat
 (List.take d11.1.toNat d11.2++List.replicate ((d11.2.length:Int).toNat - d11.1.toNat) 0++List.drop (d11.2.length:Int).toNat d11.2)))).length (cutI (srtI (List.take d11.1.toNat (List.take d11.1.toNat d11.2++List.replicate ((d11.2.length:Int).toNat - d11.1.toNat) 0++List.drop (d11.2.length:Int).toNat d11.2))++List.drop d11.1.toNat (List.take d11.1.toNat d11.2++List.replicate ((d11.2.length:Int).toNat - d11.1.toNat) 0++List.drop (d11.2.length:Int).toNat d11.2)) d11.1.toNat))) else none else none else none else none else none) d9 else none
def Zlv (x:U×Unit):Option (List Int):=Zs9 x.1
def Zuv:=conP true ZQc (.dat (.sl (.int .i64))) Zlv
theorem ZE2:Zf Tryz.prog 43 Zuv:=Ze (calU HX [Jc,Hg,ZdT,Zm7,ZJx] 40 1048576 8 43) true (by rfl) (by rfl) (fun x r e=>(Zk _ _ _ _ _ _ _).trans ((show _=Zlv x by kernel_rfl).trans e)) (.inl rfl)
def ZfY (b0 b0_1:List Int) (b0_2:Int) (b0_3:List C) (s15:List Int) (i:Nat) (b1:List Int) (d:Int):Option ((List Int)⊕JY):=
 bif decide ((b1.length+[d,IntKind.i64.wrap (d - 1)].length+1)*8≤lim) then
  some (.inl (b1++[d,IntKind.i64.wrap (d - 1)]))
 else none
def ZrD (b0 b0_1:List Int) (b0_2:Int) (b0_3:List C) (s15 b1:List Int):Option JY:=
 some (b0,b0_1,b0_2,b0_3,b1)
abbrev ZGj (b0 b0_1:List Int) (b0_2:Int) (b0_3:List C) (s15:List Int) (i:Nat) (s:List Int):Vy:=(s15,(s15.length:Int),(i:Int),b0,b0_1,b0_2,b0_3,s)
def ZlY (b0 b0_1:List Int) (b0_2:Int) (b0_3:List C) (s15 s:List Int):Option JY:=Zp (fun i s d=>ZfY b0 b0_1 b0_2 b0_3 s15 i s d) (fun s=>ZrD b0 b0_1 b0_2 b0_3 s15 s) 0 s15 s
theorem ZF8 (b0 b0_1:List Int) (b0_2:Int) (b0_3:List C) (s15 s:List Int) (hl:s15.length<9223372036854775807):ZcB (s15,(s15.length:Int),0,b0,b0_1,b0_2,b0_3,s)=ZlY b0 b0_1 b0_2 b0_3 s15 s:=by
 unfold ZcB ZlY
 refine Zs s15 (ZGj b0 b0_1 b0_2 b0_3 s15) _ _ ?_ ?_ s (by unfold Zl;omega)
 ·intro i s d hi hd
  have e1:decide ((i:Int)<(s15.length:Int))=true:=dT0 (by omega)
  have e2:decide (0≤(i:Int))=true:=dT0 (by omega)
  have e3:Int.toNat (i:Int)=i:=tN0 i
  have e4:=Zq hi (Nat.le_of_lt hl)
  show ZbE (s15) ((s15.length:Int)) ((i:Int)) (b0) (b0_1) (b0_2) (b0_3) (s)=upd _ (ZfY b0 b0_1 b0_2 b0_3 s15 i s d)
  unfold ZbE ZfY
  simp only [e1,e2,e3,e4,hd,cond_true,cond_false,Zb,ZC,ZF,ZD,ZI,ZJ,ZE]
 ·intro s
  have e1:decide ((s15.length:Int)<(s15.length:Int))=false:=dF0 (by omega)
  show ZbE (s15) ((s15.length:Int)) ((s15.length:Int)) (b0) (b0_1) (b0_2) (b0_3) (s)=_
  unfold ZbE ZrD
  rw [e1]
  rfl
theorem ZSB {α:Type} (g:α→List Int):∀ (r:List α) (l:List Int),r.foldl (fun s d=>s++g d) l=l++r.flatMap g
 | [],l=>by simp
 | a::r,l=>by rw [List.foldl_cons,ZSB g r,List.flatMap_cons,List.append_assoc]
theorem Z5W (u:U) (l:List Int) (hu:∀ n∈u.2.1,1≤n∧n≤16) (h:l.length+2*u.2.1.length≤10000) :
  ZcB (u.2.1,(u.2.1.length:Int),0,u.1,u.2.1,u.2.2.1,u.2.2.2,l)=some (u.1,u.2.1,u.2.2.1,u.2.2.2,l++u.2.1.flatMap numD):=by
 rw [ZF8 u.1 u.2.1 u.2.2.1 u.2.2.2 u.2.1 l (by omega)]
 unfold ZlY
 rw [ZhF (g:=fun s d=>s++numD d) (fun s r=>s.length+2*r.length≤10000∧∀ n∈r,1≤n∧n≤16) (fun j s d r h=>?_) u.2.1 0 l ⟨h,hu⟩,ZSB]
 ·rfl
 ·have h':=h.1
  rw [List.length_cons] at h'
  have hd:=h.2 d (by simp)
  have w:IntKind.i64.wrap (d - 1)=d - 1:=ZdN (by omega) (by omega)
  have q:decide ((s.length+2+1)*8≤lim)=true:=dT0 (by unfold lim;omega)
  refine ⟨?_,by simp only [numD,List.length_append,List.length_cons,List.length_nil];omega,fun n hn=>h.2 n (by simp [hn])⟩
  simp only [ZfY,w,List.length_cons,List.length_nil,Nat.zero_add,q,cond_true,numD]
def numB (a:A):List Int:=bif a.1==1 then [a.2.2.2.2.2.1 - 1,a.2.2.2.2.2.1,a.2.2.2.2.2.1+1] else []
theorem ZLC (a:A):(numB a).length≤3:=by unfold numB;cases a.1==1<;>simp
theorem Zpb {α:Type} {g:α→List Int} {k:Nat} (h:∀ a,(g a).length≤k):∀ r:List α,(r.flatMap g).length≤k*r.length
 | []=>by simp
 | a::r=>by
  have:=h a
  have:=Zpb h r
  rw [List.flatMap_cons,List.length_append,List.length_cons,Nat.mul_succ];omega
theorem Z4c (s29:List C) (s30 s31:Int) (acts:List A) (hf:∀ a∈acts,fitB a.2.2.2.2.2.1=true) (ha:acts.length≤60) (l:List Int) (hl:l.length≤7000) :
  Vv (s29,s30,s31,acts,(acts.length:Int),0,l)=some (s29,s30,s31,l++acts.flatMap numB):=by
 have go:∀ (r:List A) (i:Nat) (s:List Int) (k:Nat),acts.drop i=r→i+r.length=acts.length→s.length+3*r.length≤8000→
   Zh ZbR (k+r.length+1) (s29,s30,s31,acts,(acts.length:Int),(i:Int),s)=some (s29,s30,s31,s++r.flatMap numB):=by
  intro r
  induction r with
  | nil=>
   intro i s k hd hi hs
   have e:decide ((i:Int)<(acts.length:Int))=false:=dF0 (by simp at hi;omega)
   simp only [Zh,ZbR,KO,e,cond_false]
   simp
  | cons a r ih=>
   intro i s k hd hi hs
   rw [List.length_cons] at hi hs ⊢
   have hc:acts[i]? = some a:=by
    have:=congrArg (fun q=>q[0]?) hd
    simpa using this
   have e:decide ((i:Int)<(acts.length:Int))=true:=dT0 (by omega)
   have e0:decide (0≤(i:Int))=true:=dT0 (by omega)
   have w:=Zq (i:=i) (n:=acts.length) (by omega) (by omega)
   have hfa:=JH.1 (hf a (mG0 hc))
   have w1:IntKind.i64.wrap (a.2.2.2.2.2.1 - 1)=a.2.2.2.2.2.1 - 1:=ZdN (by omega) (by omega)
   have w2:IntKind.i64.wrap (a.2.2.2.2.2.1+1)=a.2.2.2.2.2.1+1:=ZdN (by omega) (by omega)
   have lm:decide ((s.length+3+1)*8≤lim)=true:=dT0 (by unfold lim;omega)
   have nb:=ZLC a
   have ih':=ih (i+1) (s++numB a) k (by rw [← List.drop_drop,hd];rfl) (by omega) (by rw [List.length_append];omega)
   rw [show k+(r.length+1)+1=(k+r.length+1)+1 by omega,Zh,List.flatMap_cons,← List.append_assoc]
   rw [← ih']
   simp only [ZbR,KO,e,e0,cond_true,tN0,hc,Zb,w,w1,w2,List.length_cons,List.length_nil,Nat.zero_add,lm]
   unfold numB
   cases a.1==1
   ·simp only [cond_false,List.append_nil]
   ·simp only [cond_true]
 unfold Vv
 have:=go acts 0 l (Zl - acts.length - 1) rfl (by simp) (by omega)
 rw [show Zl - acts.length - 1+acts.length+1=Zl by unfold Zl;omega] at this
 exact this
def numBs (c:C):List Int:=c.2.flatMap numB
theorem Z5Y (u:U) (hu:unitOK u) (l:List Int) (hl:l.length≤1000):Zhd (u.2.2.2,(u.2.2.2.length:Int),0,l)=some (l++u.2.2.2.flatMap numBs):=by
 have ht:=hu.t
 have go:∀ (r:List C) (i:Nat) (s:List Int) (k:Nat),u.2.2.2.drop i=r→i+r.length=u.2.2.2.length→s.length+180*r.length≤6000→
   Zh ZbQ (k+r.length+1) (u.2.2.2,(u.2.2.2.length:Int),(i:Int),s)=some (s++r.flatMap numBs):=by
  intro r
  induction r with
  | nil=>
   intro i s k hd hi hs
   have e:decide ((i:Int)<(u.2.2.2.length:Int))=false:=dF0 (by simp at hi;omega)
   simp only [Zh,ZbQ,Zl9,e,cond_false]
   simp
  | cons c r ih=>
   intro i s k hd hi hs
   rw [List.length_cons] at hi hs ⊢
   have hc:u.2.2.2[i]? = some c:=by
    have:=congrArg (fun q=>q[0]?) hd
    simpa using this
   have ho:=hu.ts c (mG0 hc)
   have e:decide ((i:Int)<(u.2.2.2.length:Int))=true:=dT0 (by omega)
   have e0:decide (0≤(i:Int))=true:=dT0 (by omega)
   have w:=Zq (i:=i) (n:=u.2.2.2.length) (by omega) (by omega)
   have hn:=ho.n.2
   have a1:=Z4c u.2.2.2 (u.2.2.2.length:Int) (i:Int) c.2 (fun a ha=>(ho.a a ha).n) hn s (by omega)
   have a2:=Zpb ZLC c.2
   have ih':=ih (i+1) (s++numBs c) k (by rw [← List.drop_drop,hd];rfl) (by omega) (by rw [List.length_append];unfold numBs;omega)
   rw [show k+(r.length+1)+1=(k+r.length+1)+1 by omega,Zh,List.flatMap_cons,← List.append_assoc,← ih']
   simp only [ZbQ,Zl9,e,e0,cond_true,tN0,hc,Zb,a1,w]
   rfl
 unfold Zhd
 have:=go u.2.2.2 0 l (Zl - u.2.2.2.length - 1) rfl (by simp) (by omega)
 rw [show Zl - u.2.2.2.length - 1+u.2.2.2.length+1=Zl by unfold Zl;omega] at this
 exact this
theorem Z4i {d:Int}:(bif decide (d < -2147483648) then false else bif decide (d>2147483647) then false else true)=fitB d:=by
 cases h:fitB d
 ·have:¬ (-2147483648≤d∧d≤2147483647):=fun k=>by rw [JH.2 k] at h;cases h
  by_cases h1:d < -2147483648
  ·rw [dT0 h1];rfl
  ·rw [dF0 h1,dT0 (show d>2147483647 by omega)];rfl
 ·have:=JH.1 h
  rw [dF0 (show ¬ d < -2147483648 by omega),dF0 (show ¬ d>2147483647 by omega)];rfl
theorem ZWx {α:Type} {d:Int} {x y:α}:(bif decide (d < -2147483648) then x else bif decide (d>2147483647) then x else y)=bif fitB d then y else x:=by
 rw [← Z4i]
 cases decide (d < -2147483648)<;>cases decide (d>2147483647)<;>rfl
theorem Z4d (L:List Int) (hL:L.length≤10000):(Q8 ((L.length:Int),0,L)=some (.inl L)∧L.filter fitB=L)∨∃ j:Nat,j<L.length∧Q8 ((L.length:Int),0,L)=some (.inr ((j:Int),L))∧L.filter fitB=L.take j++(L.drop (j+1)).filter fitB:=by
 have go:∀ (r:List Int) (i:Nat) (k:Nat),L.drop i=r→i+r.length=L.length→(L.take i).filter fitB=L.take i→
   (Zh QR (k+r.length+1) ((L.length:Int),(i:Int),L)=some (.inl L)∧L.filter fitB=L) ∨
   ∃ j:Nat,j<L.length∧Zh QR (k+r.length+1) ((L.length:Int),(i:Int),L)=some (.inr ((j:Int),L))∧L.filter fitB=L.take j++(L.drop (j+1)).filter fitB:=by
  intro r
  induction r with
  | nil=>
   intro i k hd hi hf
   have hi:i=L.length:=by simpa using hi
   have e:decide ((i:Int)<(L.length:Int))=false:=dF0 (by omega)
   refine .inl ⟨?_,?_⟩
   ·simp only [Zh,QR,Kg,e,cond_false]
   ·subst hi
    rwa [List.take_length] at hf
  | cons d r ih=>
   intro i k hd hi hf
   rw [List.length_cons] at hi ⊢
   have hc:L[i]? = some d:=by
    have:=congrArg (fun q=>q[0]?) hd
    simpa using this
   have e:decide ((i:Int)<(L.length:Int))=true:=dT0 (by omega)
   have e0:decide (0≤(i:Int))=true:=dT0 (by omega)
   have w:=Zq (i:=i) (n:=L.length) (by omega) (by omega)
   have hs:Zh QR (k+(r.length+1)+1) ((L.length:Int),(i:Int),L) =
     bif fitB d then Zh QR (k+r.length+1) ((L.length:Int),((i+1:Nat):Int),L) else some (.inr ((i:Int),L)):=by
    rw [show k+(r.length+1)+1=(k+r.length+1)+1 by omega,Zh]
    simp only [QR,Kg,e,e0,cond_true,tN0,hc,Zb,w]
    rw [ZWx]
    cases fitB d<;>rfl
   rw [hs]
   cases hq:fitB d
   ·refine .inr ⟨i,by omega,rfl,?_⟩
    have hL2:L=L.take i++d::L.drop (i+1):=by
     have:L.drop i=d::L.drop (i+1):=by
      have h1:=(List.getElem?_eq_some_iff.1 hc)
      obtain ⟨h1,h2⟩:=h1
      rw [List.drop_eq_getElem_cons h1,h2]
     rw [← this,List.take_append_drop]
    conv=>lhs;rw [hL2]
    rw [List.filter_append,hf,List.filter_cons,hq]
    rfl
   ·refine ih (i+1) k (by rw [← List.drop_drop,hd];rfl) (by omega) ?_
    rw [List.take_add_one,hc,List.filter_append,hf]
    simp [hq]
 unfold Q8
 have:=go L 0 (Zl - L.length - 1) rfl (by simp) rfl
 rw [show Zl - L.length - 1+L.length+1=Zl by unfold Zl;omega] at this
 exact this
theorem Z5X (L:List Int) (hL:L.length≤10000) (j0:Nat) (hj:j0<L.length) (hf:L.filter fitB=L.take j0++(L.drop (j0+1)).filter fitB) :
  ∃ (j:Nat) (X:List Int),Zhe ((j0:Int),((j0+1:Nat):Int),L)=some ((j:Int),X)∧j≤X.length∧X.length=L.length∧X.take j=L.filter fitB:=by
 have go:∀ (r:List Int) (i j:Nat) (X:List Int) (k:Nat),j≤i→X.drop i=r→X.length=L.length→i+r.length=L.length→X.take j++r.filter fitB=L.filter fitB→
   ∃ (j':Nat) (X':List Int),Zh Jb (k+r.length+1) ((j:Int),(i:Int),X)=some ((j':Int),X')∧j'≤X'.length∧X'.length=L.length∧X'.take j'=L.filter fitB:=by
  intro r
  induction r with
  | nil=>
   intro i j X k hji hd hX hi hq
   have hi:i=L.length:=by simpa using hi
   have e:decide ((i:Int)<(X.length:Int))=false:=dF0 (by omega)
   refine ⟨j,X,?_,by omega,hX,by simpa using hq⟩
   simp only [Zh,Jb,Zma,e,cond_false]
  | cons d r ih=>
   intro i j X k hji hd hX hi hq
   rw [List.length_cons] at hi ⊢
   have hc:X[i]? = some d:=by
    have:=congrArg (fun q=>q[0]?) hd
    simpa using this
   have e:decide ((i:Int)<(X.length:Int))=true:=dT0 (by omega)
   have e0:decide (0≤(i:Int))=true:=dT0 (by omega)
   have e1:decide (0≤(j:Int))=true:=dT0 (by omega)
   have w:=Zq (i:=i) (n:=X.length) (by omega) (by omega)
   have wj:=Zq (i:=j) (n:=X.length) (by omega) (by omega)
   have hd1:X.drop (i+1)=r:=by rw [← List.drop_drop,hd];rfl
   have gj:X[j]? = some (X[j]'(by omega)):=List.getElem?_eq_getElem _
   have hs:Zh Jb (k+(r.length+1)+1) ((j:Int),(i:Int),X) =
     bif fitB d then Zh Jb (k+r.length+1) (((j+1:Nat):Int),((i+1:Nat):Int),X.set j d)
     else Zh Jb (k+r.length+1) ((j:Int),((i+1:Nat):Int),X):=by
    rw [show k+(r.length+1)+1=(k+r.length+1)+1 by omega,Zh]
    simp only [Jb,Zma,e,e0,e1,cond_true,tN0,hc,gj,Zb,w,wj]
    rw [ZWx]
    cases fitB d<;>rfl
   rw [hs]
   rw [List.filter_cons] at hq
   cases hw:fitB d
   ·rw [hw] at hq
    exact ih (i+1) j X k (by omega) hd1 hX (by omega) hq
   ·rw [hw] at hq
    refine ih (i+1) (j+1) (X.set j d) k (by omega) ?_ (by rw [List.length_set];exact hX) (by omega) ?_
    ·rw [List.drop_set_of_lt (by omega)];exact hd1
    ·rw [← hq,List.take_add_one,List.getElem?_set_self (by omega),List.take_set_of_le (Nat.le_refl _)]
     simp
 unfold Zhe
 have h1:(L.drop (j0+1)).length=L.length - (j0+1):=List.length_drop ..
 have:=go (L.drop (j0+1)) (j0+1) j0 L (Zl - (L.length - (j0+1)) - 1) (by omega) rfl rfl (by omega) hf.symm
 rw [h1,show Zl - (L.length - (j0+1)) - 1+(L.length - (j0+1))+1=Zl by unfold Zl;omega] at this
 exact this
def rawN (u:U):List Int:=[-1,0,1]++u.1++u.2.1.flatMap numD++u.2.2.2.flatMap numBs
theorem ZLb (M:List Int) (m:Nat):List.drop 0 (List.take (Lib.compact (List.take m M)).length (cutI M m))=Lib.compact (List.take m M):=by
 unfold cutI
 rw [List.drop_zero,List.append_assoc,List.take_left]
theorem ZYl (u:U):Lib.compact (srtI ((rawN u).filter fitB))=Zt u:=by
 obtain ⟨h1,h2⟩:=Z1m ((rawN u).filter fitB)
 refine ZPR _ _ h1 (ZYW u) fun x=>?_
 rw [h2,Z0D,List.mem_filter]
 have k:x∈rawN u↔x∈([-1,0,1]:List Int)∨x∈allN u:=by
  unfold rawN allN
  have hB:∀ a:A,x∈numB a↔x∈numA a:=fun a=>by
   unfold numB numA
   cases a.1==1
   ·rfl
   ·simp only [cond_true,List.mem_cons]
    exact ⟨fun h=>by rcases h with h | h | h | h<;>simp_all,fun h=>by rcases h with h | h | h | h<;>simp_all⟩
  have hC:∀ c:C,x∈numBs c↔x∈numC c:=fun c=>by
   unfold numBs numC
   simp only [List.mem_flatMap,hB]
  simp only [List.mem_append,List.mem_flatMap,hC,or_assoc]
 rw [k]
 constructor
 ·rintro ⟨h | h,hf⟩
  ·exact .inr h
  ·exact .inl ⟨h,hf⟩
 ·rintro (⟨h,hf⟩ | h)
  ·exact ⟨.inr h,hf⟩
  ·refine ⟨.inl h,?_⟩
   simp only [List.mem_cons,List.not_mem_nil,or_false] at h
   rcases h with rfl | rfl | rfl<;>rfl
theorem Z3n (u:U) (hu:unitOK u):(rawN u).length≤3000:=by
 have h1:=hu.g
 have h2:=hu.a
 have h3:=hu.t
 have a:=Zpb (g:=numD) (k:=2) (fun d=>Nat.le_refl _) u.2.1
 have b:∀ (r:List C),(∀ c∈r,c.2.length≤60)→(r.flatMap numBs).length≤180*r.length:=by
  intro r
  induction r with
  | nil=>simp
  | cons c r ih=>
   intro h
   have h0:=h c (by simp)
   have:=ih fun c hc=>h c (by simp [hc])
   have:=Zpb ZLC c.2
   rw [List.flatMap_cons,List.length_append,List.length_cons]
   unfold numBs at *
   omega
 have b:=b u.2.2.2 fun c hc=>(hu.ts c hc).n.2
 unfold rawN
 simp only [List.length_append,List.length_cons,List.length_nil]
 omega
theorem ZXM (l:List Int):(srtI l).length=l.length:=by unfold srtI;exact List.length_mergeSort _
theorem ZKt (u:U) (hu:unitOK u):Zs9 u=some (Zt u):=by
 have g1:=hu.g
 have g2:=hu.a
 have rl:=Z3n u hu
 unfold Zs9
 rw [dT0 (show ([-1,0,1].length+List.length u.1+1)*8≤lim by simp only [List.length_cons,List.length_nil];unfold lim;omega),cond_true]
 rw [Z5W u _ (fun n hn=>hu.ars n hn) (by simp only [List.length_append,List.length_cons,List.length_nil];omega)]
 simp only [Zb]
 have rl':=rl
 unfold rawN at rl'
 rw [List.length_append] at rl'
 have a2:=Zpb (g:=numD) (k:=2) (fun d=>Nat.le_refl _) u.2.1
 rw [Z5Y u hu _ (by simp only [List.length_append,List.length_cons,List.length_nil];omega)]
 simp only [Zb]
 rw [← ZYl]
 show Za (Q8 (((rawN u).length:Int),0,rawN u)) none _=_
 generalize rawN u=L at *
 rcases Z4d L (by omega) with ⟨h1,h2⟩ | ⟨j0,hj,h1,h2⟩
 ·rw [h1,h2]
  have s1:=ZXM L
  simp only [Zb,Sum.elim_inl]
  rw [dT0 (show L.length<4611686018427387904 by omega),dT0 (show (srtI L).length<4611686018427387904 by omega),cond_true,cond_true,ZLb,List.take_length]
 ·rw [h1]
  obtain ⟨j,X,d1,d2,d3,d4⟩:=Z5X L (by omega) j0 hj h2
  rw [← d4]
  have n1:((j0:Int) == -1)=false:=by simp
  have w:IntKind.i64.wrap ((j0:Int)+1)=((j0+1:Nat):Int):=Zq (n:=L.length) hj (by omega)
  have ts:(srtI (List.take j X)).length=j:=by rw [ZXM,List.length_take];omega
  simp only [Zb,Sum.elim_inr,n1,cond_false,w,d1,tN0]
  have c1:decide (0≤(j:Int)∧(j:Int)≤(X.length:Int)∧(X.length:Int)≤(X.length:Int))=true:=dT0 (by omega)
  rw [c1,cond_true]
  by_cases q:X.length≤j
  ·have c2:decide ((0:Int)≤0∧0≤(j:Int)∧(j:Int)≤(X.length:Int))=true:=dT0 (by omega)
   have c3:decide (j≤X.length∧X.length<4611686018427387904)=true:=dT0 (by omega)
   have c4:decide (j≤(srtI (List.take j X)++List.drop j X).length∧(srtI (List.take j X)++List.drop j X).length<4611686018427387904)=true:=dT0 (by rw [List.length_append,ts,List.length_drop];omega)
   rw [dT0 q,c2,c3,c4]
   simp only [cond_true]
   rw [ZLb,List.take_append_of_le_length (by omega),List.take_of_length_le (by omega)]
  ·rw [dF0 q]
   simp only [cond_false]
   have lt:(List.take j X).length=j:=by rw [List.length_take];omega
   have y1:(List.take j X++List.replicate (X.length - j) 0++List.drop X.length X).length=X.length:=by simp only [List.length_append,lt,List.length_replicate,List.length_drop];omega
   have y2:List.take j (List.take j X++List.replicate (X.length - j) 0++List.drop X.length X)=List.take j X:=by rw [List.append_assoc,List.take_append_of_le_length (by omega),List.take_take,Nat.min_self]
   have key:∀ Y:List Int,Y.length=X.length→List.take j Y=List.take j X→
     (bif decide (X.length≤X.length) then bif decide ((0:Int)≤0∧0≤(j:Int)∧(j:Int)≤(Y.length:Int)) then bif decide (j≤Y.length∧Y.length<4611686018427387904) then
      bif decide (j≤(srtI (List.take j Y)++List.drop j Y).length∧(srtI (List.take j Y)++List.drop j Y).length<4611686018427387904) then
       some (List.drop 0 (List.take (Lib.compact (List.take j (srtI (List.take j Y)++List.drop j Y))).length (cutI (srtI (List.take j Y)++List.drop j Y) j))) else none else none else none else none)=some (Lib.compact (srtI (List.take j X))):=fun Y y1 y2=>by
    have tY:(srtI (List.take j Y)).length=j:=by rw [y2];exact ts
    have c2:decide ((0:Int)≤0∧0≤(j:Int)∧(j:Int)≤(Y.length:Int))=true:=dT0 (by omega)
    have c3:decide (j≤Y.length∧Y.length<4611686018427387904)=true:=dT0 (by omega)
    have c4:decide (j≤(srtI (List.take j Y)++List.drop j Y).length∧(srtI (List.take j Y)++List.drop j Y).length<4611686018427387904)=true:=dT0 (by rw [List.length_append,tY,List.length_drop];omega)
    rw [dT0 (Nat.le_refl X.length),c2,c3,c4]
    simp only [cond_true]
    rw [ZLb,List.take_append_of_le_length (by omega),List.take_of_length_le (by omega),y2]
   exact key _ y1 y2
section
section
variable [RT] {P:Program}
def mvB (base id j:Nat) (h:Hp):Hp:=match Zr h.blks id with
 | some (.box cs)=>match cs[j]? with
  | some (.row k)=>bif leB base k then h else match Zr h.blks k with
   | some (.row e l)=>⟨setB ((h.c,.row e l)::delB h.blks k) id (.box (cs.set j (.row h.c))),h.c+1⟩
   | _=>h
  | _=>h
 | _=>h
def mvBs (base:Nat) (T:Tm):List (Nat×Nat)→Hp→Hp
 | [],h=>h
 | (t,j)::r,h=>match getT T t with
  | .ptr id _=>mvBs base T r (mvB base id j h)
  | _=>h
def owS (T:Tm):List (Nat×Nat×Ty)→Hp→Hp
 | [],h=>h
 | (t,j,e)::r,h=>match getT T t with
  | .ptr id _=>owS T r (ownB h id j e)
  | _=>h
def frS (T:Tm):List (Nat×Nat)→Hp→Hp
 | [],h=>h
 | (t,j)::r,h=>match getT T t with
  | .ptr id _=>frS T r (rowB1 id j h)
  | _=>h
section
variable {ok:Nat→Prop} {hdr0 hdr:Nat→Value} {S0 S:Stb} {h0 h:Hp} {w0 w:World} {a0 a:Act} {T:Tm}
theorem Left.under (l:Left P false ok hdr0 S0 h0 w0 a0 h T hdr S a w) (hO:∀ id,ok id→id<h0.c) {k:Nat} {e:Ty} {x:List (D e)} (hf:Zr h.blks k=some (.row e x)) :
  Left P false ok hdr0 S0 h0 w0 a0 ⟨(h.c,.row e x)::delB h.blks k,h.c+1⟩ T (hdrN hdr h.c (hdr k)) S a w:=by
 have hlt:∀ id,okn ok h0.c h.c id→id<h.c:=fun id k=>by
  rcases k with k | k
  ·exact Nat.lt_of_lt_of_le (hO id k) l.post.mono
  ·exact k.2
 have p:Post false (okn ok h0.c h.c) hdr S h w (hdrN hdr h.c (hdr k)) S ⟨(h.c,.row e x)::delB h.blks k,h.c+1⟩ w:=by
  have br:=l.post.real.blk k _ hf
  cases br with
  | rowNil _ ao hh=>
   have p1:=Zpg (tr:=false) l.post.real l.post.ment k _ hf S (fun _ _ k=>k) (fun _ _ k=>.inl k)
   have p2:=post_new' (tr:=false) (h:=⟨delB h.blks k,h.c⟩) p1.real p1.ment (fun id k=>.inl (by rcases k with k | k;exact hlt id k;omega)) (.row e []) (fun n hn=>by cases hn) w rfl rfl rfl (Nat.le_refl _) (fun _ _=>rfl) (hdr k)
    (by rw [hh];cases ao<;>exact .inl rfl) (fun hdr' _ g2=>.rowNil e ao (g2.trans hh))
   exact p1.trans p2
  | row _ _ b cap vs et hh hcap hw hl hs hre=>
   have hblk:blkOf (hdr k)=some b:=by
    rw [hh]
    cases cap with
    | zero=>omega
    | succ n=>rfl
   exact ZzW (tr:=false) l.post.real l.post.ment (fun id k=>.inl (hlt id k)) k (.row e x) _ hf (fun n hn=>by cases hn) w b (hdr k) hblk hblk rfl rfl rfl rfl (fun _ _=>rfl)
    (fun hdr' _ g2=>.row e x b cap vs et (g2.trans hh) hcap hw hl hs hre)
 refine l.trans ⟨p,fun t=>?_,fun t n hn=>.inl (l.tok t n hn),rfl,rfl⟩
 exact VRep.mono (fun _ _ k=>k) (l.tmps t) fun n hn=>Zpr _ _ _ (by have:=hlt n (l.tok t n hn);omega)
theorem Left.mvB (l:Left P false ok hdr0 S0 h0 w0 a0 h T hdr S a w) (hO:∀ id,ok id→id<h0.c) (base id j:Nat) :
  ∃ hdr',Left P false ok hdr0 S0 h0 w0 a0 (Go.Proofs.YtbdcblpjemmipaaGreat.Ex.mvB base id j h) T hdr' S a w:=by
 unfold Go.Proofs.YtbdcblpjemmipaaGreat.Ex.mvB
 split
 case h_2=>exact ⟨hdr,l⟩
 rename_i cs hf
 split
 case h_2=>exact ⟨hdr,l⟩
 rename_i k hk
 cases leB base k
 case true=>exact ⟨hdr,l⟩
 simp only [cond_false]
 split
 case h_2=>exact ⟨hdr,l⟩
 rename_i e x hx
 have hne:id≠k:=fun q=>by rw [q,hx] at hf;cases hf
 have hb:=l.post.real.blk id _ hf
 cases hb with | box _ b vs et hh hw hr=>
 obtain ⟨u,hu,hv⟩:=hr.get j _ hk
 cases hv with | row _ ao len cap hh2=>
 have l1:=l.under hO hx
 have hlt:∀ id,okn ok h0.c h.c id→id<h.c:=fun id k=>by
  rcases k with k | k
  ·exact Nat.lt_of_lt_of_le (hO id k) l.post.mono
  ·exact k.2
 have hid:=hlt id (l.post.ment id _ hf).1
 have hf1:Zr ((h.c,Blk.row e x)::delB h.blks k) id=some (.box cs):=by rw [QA,if_neg (by omega),Zco,if_neg hne];exact hf
 have hb1:=l1.post.real.blk id _ hf1
 cases hb1 with | box _ b1 vs1 et1 hh1 hw1 hr1=>
 have e0:hdrN hdr h.c (hdr k) id=hdr id:=Zpr _ _ _ (by omega)
 rw [e0,hh] at hh1
 cases hh1
 rw [hw] at hw1
 simp only [Option.some.injEq,Obj.cells.injEq] at hw1
 have hvs:vs=vs1:=by have:=congrArg Array.toList hw1.1;simpa using this
 subst hvs
 have hB:∀ n∈(Blk.box (cs.set j (.row h.c))).ids,okn ok h0.c (h.c+1) n:=fun n hn=>by
  rcases ZC9 j _ n hn with k | k
  ·exact (l1.post.ment id _ hf1).2 n k
  ·simp only [AV.ids,List.mem_singleton] at k
   subst k
   exact .inr ⟨l.post.mono,Nat.lt_succ_self _⟩
 have p:=Zph (tr:=false) l1.post.real l1.post.ment id (.box (cs.set j (.row h.c))) _ hf1 hB w b (by rw [e0,hh];rfl) rfl rfl rfl rfl (fun _ _=>rfl)
  (.box _ b vs et (by rw [e0,hh]) hw (Zzp j (.row h.c) _ hr1 hu (.row _ ao len cap (by rw [Yq];exact hh2))))
 exact ⟨_,l1.trans ⟨p,l1.tmps,fun t n hn=>.inl (l1.tok t n hn),rfl,rfl⟩⟩
theorem Left.mvBs (base:Nat) (hO:∀ id,ok id→id<h0.c):∀ (bs:List (Nat×Nat)) {h:Hp} {hdr:Nat→Value} (_:Left P false ok hdr0 S0 h0 w0 a0 h T hdr S a w),∃ hdr',Left P false ok hdr0 S0 h0 w0 a0 (Go.Proofs.YtbdcblpjemmipaaGreat.Ex.mvBs base T bs h) T hdr' S a w
 | [],_,hdr,l=>⟨hdr,l⟩
 | (t,j)::r,_,hdr,l=>by
  unfold Go.Proofs.YtbdcblpjemmipaaGreat.Ex.mvBs
  split
  ·obtain ⟨hdr',l'⟩:=l.mvB hO base _ j
   exact Left.mvBs base hO r l'
  ·exact ⟨hdr,l⟩
theorem Left.owS (hO:∀ id,ok id→id<h0.c):∀ (bs:List (Nat×Nat×Ty)) {h:Hp} {hdr:Nat→Value} (_:Left P false ok hdr0 S0 h0 w0 a0 h T hdr S a w),∃ hdr',Left P false ok hdr0 S0 h0 w0 a0 (Go.Proofs.YtbdcblpjemmipaaGreat.Ex.owS T bs h) T hdr' S a w
 | [],_,hdr,l=>⟨hdr,l⟩
 | (t,j,e)::r,_,hdr,l=>by
  unfold Go.Proofs.YtbdcblpjemmipaaGreat.Ex.owS
  split
  ·rename_i id _ _
   obtain ⟨hdr',l'⟩:=l.ownB hO id j e
   exact Left.owS hO r l'
  ·exact ⟨hdr,l⟩
theorem Left.frS:∀ (bs:List (Nat×Nat)) {h:Hp} {S:Stb} (_:Left P false ok hdr0 S0 h0 w0 a0 h T hdr S a w),∃ S',Left P false ok hdr0 S0 h0 w0 a0 (Go.Proofs.YtbdcblpjemmipaaGreat.Ex.frS T bs h) T hdr S' a w
 | [],_,S,l=>⟨S,l⟩
 | (t,j)::r,_,S,l=>by
  unfold Go.Proofs.YtbdcblpjemmipaaGreat.Ex.frS
  split
  ·rename_i id _ _
   obtain ⟨S',l'⟩:=l.rowB1 id j
   exact Left.frS r l'
  ·exact ⟨S,l⟩
def slP (os:List (Nat×Nat×Ty)) (fs ms:List (Nat×Nat)) (keep:List Nat) (r:Nat→Tm→Prog (Nat×Tm)) (base:Nat) (T:Tm):Prog (Nat×Tm):=
 .norm base keep T fun T1=>.glob (fun h=>some (T1,mvBs base T1 ms (frS T1 fs (owS T1 os h)))) fun T2=>r base T2
theorem ZLJ {n:Nat} {c:Code} {os:List (Nat×Nat×Ty)} {fs ms:List (Nat×Nat)} {keep:List Nat} {r:Nat→Tm→Prog (Nat×Tm)} (hs:Qc P n c r):Qc P n c (slP os fs ms keep r):=by
 intro tr ok hdr0 S0 h0 w0 a0 h T hdr S a w f e T' h' f' Q l hn ev hO hK
 obtain ⟨T1,h1,hdr1,rfl,l1,ev⟩:=l.normed ev
 have hO2:∀ id,ok id→id<h0.c:=fun id k=>by
  rcases hO id k with k | k
  ·exact k
  ·cases k.1
 obtain ⟨hdr2,l2⟩:=Left.owS hO2 os l1
 obtain ⟨S3,l3⟩:=Left.frS fs l2
 obtain ⟨hdr4,l4⟩:=Left.mvBs h0.c hO2 ms l3
 unfold ex at ev
 simp only [run,cond_false,Option.bind_some] at ev
 exact hs false ok hdr0 S0 h0 w0 a0 _ _ hdr4 S3 a w f e T' h' f' Q l4 hn ev hO hK
end
end
end
section
section
variable [RT] {P:Program}
def ZdX:List AV→List Nat
 | []=>[]
 | .row i::r=>i::ZdX r
 | _::r=>ZdX r
def getsP:List Nat→(List Blk→Prog AV)→Prog AV
 | [],k=>k []
 | i::r,k=>.get i fun b=>getsP r fun bs=>k (b::bs)
def putsP:List Nat→List Blk→Prog AV→Prog AV
 | i::r,b::bs,k=>.put i b (putsP r bs k)
 | _,_,k=>k
def inOf (ids:List Nat) (n:Nat):Option Nat:=idxN ids n 0
def outOf (ids:List Nat) (n:Nat):Option Nat:=ids[n]?
def meP (N:List AV→List Blk→Option (AV×List Blk)) (args:List AV):Prog AV:=match args with
 | .ptr id _::_=>.get id fun
  | .box cs=>.ite (Qy (id::ZdX cs)) (getsP (id::ZdX cs) fun bs=>
    .opt (N (AV.renL (inOf (id::ZdX cs)) args) (bs.map (Blk.ren (inOf (id::ZdX cs))))) fun y=>putsP (id::ZdX cs) (y.2.map (Blk.ren (outOf (id::ZdX cs)))) (.ret y.1)) .fail
  | .row _ _=>.fail
 | _=>.fail
def getB (h:List (Nat×Blk)):List Nat→Option (List Blk)
 | []=>some []
 | i::r=>(Zr h i).bind fun b=>(getB h r).map (b::·)
def putB:List (Nat×Blk)→List Nat→List Blk→List (Nat×Blk)
 | h,i::r,b::bs=>putB (setB h i b) r bs
 | h,_,_=>h
theorem ZWt {tr:Bool} {h:Hp} {r:AV×Hp×Foot}:∀ (ids:List Nat) (k:List Blk→Prog AV) (f:Foot),ex (getsP ids k) tr h f=some r→∃ bs f',getB h.blks ids=some bs∧ex (k bs) tr h f'=some r
 | [],k,f,e=>⟨[],f,rfl,e⟩
 | i::ids,k,f,e=>by
  obtain ⟨b,hb,e⟩:=Qr e
  obtain ⟨bs,f',h1,e⟩:=ZWt ids _ _ e
  exact ⟨b::bs,f',by simp [getB,hb,h1],e⟩
theorem ZWv {tr:Bool} {v:AV} {r:AV×Hp×Foot}:∀ (ids:List Nat) (bs:List Blk) (h:Hp) (f:Foot),ex (putsP ids bs (.ret v)) tr h f=some r→∃ f',r=(v,⟨putB h.blks ids bs,h.c⟩,f')
 | [],bs,h,f,e=>by
  unfold putsP at e
  cases ZA e
  exact ⟨f,rfl⟩
 | i::ids,[],h,f,e=>by
  unfold putsP at e
  cases ZA e
  exact ⟨f,rfl⟩
 | i::ids,b::bs,h,f,e=>by
  obtain ⟨_,e⟩:=Zqj e
  exact ZWv ids bs _ _ e
theorem ZOd {h:List (Nat×Blk)}:∀ {ids:List Nat} {bs:List Blk},getB h ids=some bs→ids.length=bs.length∧∀ (i n:Nat),ids[i]? = some n→Zr h n=bs[i]?
 | [],bs,e=>by cases e;exact ⟨rfl,fun i n k=>by simp at k⟩
 | j::ids,bs,e=>by
  simp only [getB,Option.bind_eq_some_iff,Option.map_eq_some_iff] at e
  obtain ⟨b,hb,bs',hb',rfl⟩:=e
  obtain ⟨h1,h2⟩:=ZOd hb'
  refine ⟨by simp [h1],fun i n k=>?_⟩
  cases i with
  | zero=>simp at k;subst k;simpa using hb
  | succ i=>simp at k;simpa using h2 i n k
theorem ZYi {n:Nat} {l:List Nat} (h:Qy (n::l)=true):n ∉ l∧Qy l=true:=by
 simp only [Qy] at h
 cases hn:hasN l n
 ·rw [hn] at h
  refine ⟨fun k=>?_,by simpa using h⟩
  have:∀ (l:List Nat),n∈l→hasN l n=true:=fun l=>by
   induction l with
   | nil=>intro k;cases k
   | cons a l ih=>
    intro k
    show (bif Nat.beq a n then true else hasN l n)=true
    rcases List.mem_cons.1 k with rfl | k
    ·simp
    ·rw [ih k];cases Nat.beq a n<;>rfl
  rw [this l k] at hn;cases hn
 ·rw [hn] at h;simp at h
theorem ZPh {j:Nat}:∀ {ids:List Nat} {bs:List Blk} {h:List (Nat×Blk)},Qy ids=true→ids.length=bs.length→(∀ n∈ids,∃ b,Zr h n=some b)→
  (∀ i:Nat,ids[i]? = some j→Zr (putB h ids bs) j=bs[i]?)∧(j ∉ ids→Zr (putB h ids bs) j=Zr h j)
 | [],bs,h,_,_,_=>⟨fun i k=>by simp at k,fun _=>by cases bs<;>rfl⟩
 | n::ids,[],h,_,hl,_=>by simp at hl
 | n::ids,b::bs,h,hn,hl,hf=>by
  obtain ⟨h1,h2⟩:=ZYi hn
  obtain ⟨b0,hb0⟩:=hf n (by simp)
  have ih:=ZPh (j:=j) (bs:=bs) (h:=setB h n b) h2 (by simpa using hl) fun m hm=>by
   obtain ⟨b1,hb1⟩:=hf m (by simp [hm])
   rw [Vl _ _ _ _ hb0]
   split
   ·exact ⟨b,rfl⟩
   ·exact ⟨b1,hb1⟩
  refine ⟨fun i k=>?_,fun k=>?_⟩
  ·cases i with
   | zero=>
    simp only [List.getElem?_cons_zero,Option.some.injEq] at k
    subst k
    show Zr (putB (setB h n b) ids bs) n=some b
    rw [ih.2 h1,Vl _ _ _ _ hb0,if_pos rfl]
   | succ i=>exact ih.1 i (by simpa using k)
  ·simp only [List.mem_cons,not_or] at k
   show Zr (putB (setB h n b) ids bs) j=Zr h j
   rw [ih.2 k.2,Vl _ _ _ _ hb0,if_neg k.1]
theorem Z0y {g:FuncId} {q:List AV→Prog AV} (hq:Zf P g q) {N:List AV→List Blk→Option (AV×List Blk)}
  (hN:∀ args bs v bs2,N args bs=some (v,bs2)→(∀ n∈AV.idsL args,n<bs.length)∧(∀ b∈bs,∀ n∈b.ids,n<bs.length)∧v.ids=[]∧bs2.length=bs.length∧(∀ b∈bs2,∀ n∈b.ids,n<bs.length) ∧
   ∃ h2 fb,ex (q args) false ⟨enumB 0 bs,bs.length⟩ ⟨[],[]⟩=some (v,h2,fb)∧∀ i,i<bs.length→Zr h2.blks i=bs2[i]?):Zf P g (meP N):=by
 intro tr args h ft v h' ft' vals hdr S w ok e hr hm hv hi hO
 unfold meP at e
 split at e
 case h_2=>exact (Zj e).elim
 rename_i id off rest
 obtain ⟨b0,hb0,e⟩:=Qr e
 split at e
 case h_2=>exact (Zj e).elim
 rename_i cs
 rcases Ko e with ⟨hnd,e⟩ | ⟨_,e⟩
 case inr=>exact (Zj e).elim
 generalize hids:id::ZdX cs=ids at e hnd
 obtain ⟨bs,f1,hg,e⟩:=ZWt ids _ _ e
 obtain ⟨⟨v1,bs2⟩,hNe,e⟩:=ZG e
 obtain ⟨f2,e⟩:=ZWv ids _ _ _ e
 cases e
 obtain ⟨hlen,hat⟩:=ZOd hg
 obtain ⟨k1,k2,k3,k4,k5,h2,fb,k6,k7⟩:=hN _ _ _ _ hNe
 simp only [List.length_map] at k1 k2 k4 k5 k6 k7
 have hin:∀ n m,inOf ids n=some m→ids[m]? = some n:=fun n m e=>by
  have:=(ZyT e).2
  simpa using this
 have hio:∀ i n,ids[i]? = some n→inOf ids n=some i:=fun i n k=>by
  have:=Zw6 0 hnd k
  rw [Nat.zero_add] at this
  exact this
 let hdr0:Nat→Value:=fun i=>hdr (ids.getD i 0)
 have hd0:∀ i n,ids[i]? = some n→hdr0 i=hdr n:=fun i n k=>by
  show hdr (ids.getD i 0)=_
  rw [List.getD_eq_getElem?_getD,k];rfl
 have hρ:∀ n m,inOf ids n=some m→hdr0 m=hdr n:=fun n m e=>hd0 m n (hin n m e)
 have hσ:∀ n m,outOf ids n=some m→hdr m=hdr0 n:=fun n m e=>(hd0 n m e).symm
 have hmem:∀ i,i<bs.length→∃ n b,ids[i]? = some n∧bs[i]? = some b∧Zr h.blks n=some b:=fun i hi=>by
  have q1:ids[i]? = some (ids[i]'(by omega)):=List.getElem?_eq_getElem _
  refine ⟨_,bs[i],q1,List.getElem?_eq_getElem hi,?_⟩
  rw [hat i _ q1,List.getElem?_eq_getElem hi]
 have e0:∀ i b,Zr (enumB 0 (bs.map (Blk.ren (inOf ids)))) i=some b→∃ n c,i<bs.length∧ids[i]? = some n∧bs[i]? = some c∧Zr h.blks n=some c∧b=c.ren (inOf ids):=fun i b k=>by
  rw [ZmS,if_pos (Nat.zero_le _),Nat.sub_zero,List.getElem?_map,Option.map_eq_some_iff] at k
  obtain ⟨c,hc,rfl⟩:=k
  have hi:=(List.getElem?_eq_some_iff.1 hc).1
  obtain ⟨n,b',q1,q2,q3⟩:=hmem i hi
  rw [hc] at q2;cases q2
  exact ⟨n,c,hi,q1,hc,q3,rfl⟩
 have real0:HReal hdr0 S (enumB 0 (bs.map (Blk.ren (inOf ids)))) w:=by
  refine ⟨fun i b k=>?_,fun i j b b' n hij hi hj hni hnj=>?_,fun i b n hi hni=>?_,hr.mem⟩
  ·obtain ⟨n,c,hl,q1,q2,q3,rfl⟩:=e0 i b k
   exact Zs5 hρ (hr.blk n c q3) (hio i n q1)
  ·obtain ⟨x,c,hl,q1,q2,q3,rfl⟩:=e0 i b hi
   obtain ⟨y,d,hl',p1,p2,p3,rfl⟩:=e0 j b' hj
   rw [hd0 i x q1] at hni
   rw [hd0 j y p1] at hnj
   refine hr.sep x y c d n (fun exy=>?_) q3 p3 hni hnj
   subst exy
   have:=(hio i x q1).symm.trans (hio j x p1)
   cases this;exact hij rfl
  ·obtain ⟨x,c,hl,q1,q2,q3,rfl⟩:=e0 i b hi
   rw [hd0 i x q1] at hni
   exact hr.stb x c n q3 hni
 have ment0:Yd (fun n=>n<bs.length) (enumB 0 (bs.map (Blk.ren (inOf ids)))):=fun i b k=>by
  obtain ⟨n,c,hl,q1,q2,q3,rfl⟩:=e0 i b k
  exact ⟨hl,fun m hm=>k2 _ (List.mem_map.2 ⟨c,List.mem_of_getElem? q2,rfl⟩) m hm⟩
 have args0:VReps hdr0 S (AV.renL (inOf ids) (.ptr id off::rest)) vals:=Znm hρ _ _ hv
 obtain ⟨hcall,hcalls⟩:=hq false _ ⟨enumB 0 (bs.map (Blk.ren (inOf ids))),bs.length⟩ ⟨[],[]⟩ _ h2 fb vals hdr0 S w (fun n=>n<bs.length) k6 real0 ment0 args0 k1 (fun n k=>.inl k)
 refine ⟨hcall,hcalls.mono ?_⟩
 rintro en w' ⟨u,hdr',S',rfl,p2,hv2,_⟩
 have hag:∀ i,i<bs.length→hdr' i=hdr0 i:=fun i hi=>p2.agree i (.inl hi)
 have hs2:∀ n m,outOf ids n=some m→hdr m=hdr' n:=fun n m e=>by
  have:n<ids.length:=(List.getElem?_eq_some_iff.1 e).1
  rw [hag n (by omega)];exact hσ n m e
 have own0:∀ n,own (enumB 0 (bs.map (Blk.ren (inOf ids)))) hdr0 n→∃ x c,x∈ids∧Zr h.blks x=some c∧blkOf (hdr x)=some n:=fun n ⟨i,b,k,kb⟩=>by
  obtain ⟨x,c,hl,q1,q2,q3,rfl⟩:=e0 i b k
  rw [hd0 i x q1] at kb
  exact ⟨x,c,List.mem_of_getElem? q1,q3,kb⟩
 have hall:∀ n∈ids,∃ b,Zr h.blks n=some b:=fun n hn=>by
  obtain ⟨i,hi,rfl⟩:=List.mem_iff_getElem.1 hn
  obtain ⟨m,b,q1,q2,q3⟩:=hmem i (by omega)
  rw [List.getElem?_eq_getElem hi] at q1;cases q1
  exact ⟨b,q3⟩
 have hl2:ids.length=(bs2.map (Blk.ren (outOf ids))).length:=by simp;omega
 have fput:∀ j c,Zr (putB h.blks ids (bs2.map (Blk.ren (outOf ids)))) j=some c→(∃ i b,ids[i]? = some j∧bs2[i]? = some b∧c=b.ren (outOf ids)∧i<bs.length)∨(j ∉ ids∧Zr h.blks j=some c):=fun j c k=>by
  have hp:=ZPh (j:=j) hnd hl2 hall
  by_cases hj:j∈ids
  ·obtain ⟨i,hi,rfl⟩:=List.mem_iff_getElem.1 hj
   rw [hp.1 i (List.getElem?_eq_getElem hi),List.getElem?_map,Option.map_eq_some_iff] at k
   obtain ⟨b,hb,rfl⟩:=k
   exact .inl ⟨i,b,List.getElem?_eq_getElem hi,hb,rfl,by omega⟩
  ·rw [hp.2 hj] at k
   exact .inr ⟨hj,k⟩
 have ffound:∀ j c,Zr (putB h.blks ids (bs2.map (Blk.ren (outOf ids)))) j=some c→∃ b,Zr h.blks j=some b:=fun j c k=>by
  rcases fput j c k with ⟨i,b,q1,_⟩ | ⟨_,q⟩
  ·exact hall j (List.mem_of_getElem? q1)
  ·exact ⟨c,q⟩
 have hfar:∀ j c,j ∉ ids→Zr h.blks j=some c→∀ n,blkOf (hdr j)=some n→¬ own (enumB 0 (bs.map (Blk.ren (inOf ids)))) hdr0 n:=fun j c hj hf n hn k=>by
  obtain ⟨x,d,hx,q1,q2⟩:=own0 n k
  exact hr.sep j x c d n (fun e=>hj (e ▸ hx)) hf q1 hn q2
 have post:Post tr ok hdr S h w hdr S' ⟨putB h.blks ids (bs2.map (Blk.ren (outOf ids))),h.c⟩ w':=by
  refine ⟨Nat.le_refl _,fun _ _=>rfl,⟨fun j c k=>?_,fun i j b b' n hij hi hj hni hnj=>?_,fun i b n hi hni=>?_,p2.real.mem⟩,⟨p2.step.os,p2.step.tape,p2.step.output,p2.step.size,fun n hn ho=>p2.step.frame n hn fun k=>?_,fun n k=>?_,p2.step.sle,fun n c k=>?_⟩,fun j c k=>?_⟩
  ·rcases fput j c k with ⟨i,b,q1,q2,rfl,hi⟩ | ⟨hj,hf⟩
   ·exact Zs5 hs2 (p2.real.blk i b (by rw [k7 i hi];exact q2)) q1
   ·have br:=hr.blk j c hf
    exact br.congr p2.step.sle rfl (fun _ _=>rfl) fun n hn=>p2.step.frame n (br.lt hn) (hfar j c hj hf n hn)
  ·obtain ⟨c,hc⟩:=ffound i b hi
   obtain ⟨d,hd⟩:=ffound j b' hj
   exact hr.sep i j c d n hij hc hd hni hnj
  ·rcases fput i b hi with ⟨x,c,q1,q2,rfl,hx⟩ | ⟨hj,hf⟩
   ·exact p2.real.stb x c n (by rw [k7 x hx];exact q2) (by rw [← hs2 x i q1];exact hni)
   ·cases hs:S' n with
    | none=>rfl
    | some c=>
     exfalso
     rcases p2.step.snew n c hs with k | k | k
     ·rw [hr.stb i b n hf hni] at k;cases k
     ·exact hfar i b hj hf n hni k
     ·have:=(hr.blk i b hf).lt hni
      omega
  ·obtain ⟨x,c,hx,q1,q2⟩:=own0 n k
   exact ho ⟨x,c,q1,q2⟩
  ·obtain ⟨j,c,hf,hb⟩:=k
   obtain ⟨b,hb'⟩:=ffound j c hf
   exact .inl ⟨j,b,hb',hb⟩
  ·rcases p2.step.snew n c k with k | k | k
   ·exact .inl k
   ·obtain ⟨x,d,hx,q1,q2⟩:=own0 n k
    exact .inr (.inl ⟨x,d,q1,q2⟩)
   ·exact .inr (.inr k)
  ·rcases fput j c k with ⟨i,b,q1,q2,rfl,hi⟩ | ⟨hj,hf⟩
   ·obtain ⟨b',hb'⟩:=hall j (List.mem_of_getElem? q1)
    refine ⟨.inl (hm j b' hb').1,fun n hn=>?_⟩
    obtain ⟨m,_,em⟩:=ZCm hn
    obtain ⟨b'',hb''⟩:=hall n (List.mem_of_getElem? em)
    exact .inl (hm n b'' hb'').1
   ·exact ⟨.inl (hm j c hf).1,fun n hn=>.inl ((hm j c hf).2 n hn)⟩
 exact ⟨u,hdr,S',rfl,post,hv2.mono (fun _ _ k=>k) fun n hn=>(by rw [k3] at hn;cases hn),fun n hn=>by rw [k3] at hn;cases hn⟩
end
end
section
section
variable [RT] {P:Program}
def lowSh (k:Nat):Sh→Bool
 | .ptr n _=>leB (n+1) k
 | .row n=>leB (n+1) k
 | s=>free s
def lowB (k:Nat):BSh→Bool
 | .box cs=>cs.all (lowSh k)
 | .row _=>true
theorem Z2W {k:Nat} {s:Sh} {d:ShD s} (h:lowSh k s=true):∀ n∈(mk s d).ids,n<k:=by
 intro n hn
 cases s with
 | ptr a b=>
  simp only [mk,AV.ids,List.mem_singleton] at hn
  subst hn;exact Qa.1 h
 | row a=>
  simp only [mk,AV.ids,List.mem_singleton] at hn
  subst hn;exact Qa.1 h
 | _=>rw [Zxc _ d h] at hn;cases hn
theorem ZS4 {k:Nat}:∀ {s:List Sh} {d:KY s},s.all (lowSh k)=true→∀ n∈AV.idsL (mks s d),n<k
 | [],d,h,n,hn=>by cases hn
 | s::r,d,h,n,hn=>by
  simp only [List.all_cons,Bool.and_eq_true] at h
  simp only [mks,AV.idsL,List.mem_append] at hn
  rcases hn with hn | hn
  ·exact Z2W h.1 n hn
  ·exact ZS4 h.2 n hn
theorem Z1F {k:Nat} {s:BSh} {d:ZRA s} (h:lowB k s=true):∀ n∈(mkB s d).ids,n<k:=by
 cases s with
 | box cs=>exact ZS4 (d:=d) h
 | row e=>intro n hn;cases hn
theorem ZLx {k:Nat}:∀ {s:List (Nat×BSh)} {d:Zif s},s.all (fun p=>lowB k p.2)=true→∀ b∈(mkH s d).map (·.2),∀ n∈b.ids,n<k
 | [],d,h,b,hb,n,hn=>by cases hb
 | s::r,d,h,b,hb,n,hn=>by
  simp only [List.all_cons,Bool.and_eq_true] at h
  simp only [mkH,List.map_cons,List.mem_cons] at hb
  rcases hb with rfl | hb
  ·exact Z1F h.1 n hn
  ·exact ZLx h.2 b hb n hn
theorem ZOl:∀ (s:List (Nat×BSh)) (d:Zif s),(mkH s d).length=s.length
 | [],d=>rfl
 | s::r,d=>by simp only [mkH,List.length_cons,ZOl r]
theorem ZLd:∀ (bs:List Blk) (i:Nat),(enumB i bs).map (·.2)=bs
 | [],i=>rfl
 | b::bs,i=>by simp only [enumB,List.map_cons,ZLd bs]
def meN (ash:List Sh) (hsh:List (Nat×BSh)) (rs:Sh) (ho:List (Nat×BSh)) (G:KY ash→Zif hsh→Option (ShD rs×Zif ho)) (args:List AV) (bs:List Blk):Option (AV×List Blk):=
 (rds ash args).bind fun x=>(rdH hsh (enumB 0 bs)).bind fun y=>(G x y).map fun r=>(mk rs r.1,(mkH ho r.2).map (·.2))
def meC (ash:List Sh) (hsh:List (Nat×BSh)) (rs:Sh) (ho:List (Nat×BSh)) (G:KY ash→Zif hsh→Option (ShD rs×Zif ho)):List AV→Prog AV:=meP (meN ash hsh rs ho G)
noncomputable def evMX (cx:Ctx) (keeps:FuncId→List Nat) (n:Nat) (g:FuncId) (ash:List Sh) (hsh:List (Nat×BSh)) (rs:Sh) (ho:List (Nat×BSh)) (x:KY ash) (y:Zif hsh):Option (ShD rs×Zif ho):=
 evFX cx keeps n g (mks ash x) false ⟨mkH hsh y,hsh.length⟩ ⟨[],[]⟩ fun v h _=>(rd rs v).bind fun r=>(getB h.blks (List.range hsh.length)).bind fun bs=>(rdH ho (enumB 0 bs)).map fun z=>(r,z)
def qInM (sh:List Sh) (rs:Sh) (q:List AV→Prog AV) (args:List AV):Prog AV:=.opt (rds sh args) fun x=>(q (mks sh x)).bind fun v=>.opt (rd rs v) fun d=>.ret (mk rs d)
theorem ZYC {g:FuncId} {q:List AV→Prog AV} (hq:Zf P g q) {sh:List Sh} {rs:Sh} (hf:frees sh=true) (hrs:free rs=true):Zf P g (qInM (.ptr 0 0::sh) rs q):=by
 intro tr args h ft v h' ft' vals hdr S w ok e hr hm hv hi hO
 obtain ⟨x,e1,e2⟩:=ZG e
 obtain ⟨v0,h1,f1,e3,e4⟩:=Qn e2
 obtain ⟨d,e5,e6⟩:=ZG e4
 cases ZA e6
 have h0:0∈AV.idsL args:=by
  cases args with
  | nil=>simp [rds] at e1
  | cons a r=>
   simp only [rds,Option.bind_eq_some_iff] at e1
   obtain ⟨y,k1,_⟩:=e1
   have:a=mk (.ptr 0 0) y:=YY _ _ _ rfl k1
   subst this
   simp [mk,AV.idsL,AV.ids]
 obtain ⟨c1,c2⟩:=hq tr _ h ft v0 _ _ vals hdr S w ok e3 hr hm (ZpA _ _ x vals e1 hv) (fun n hn=>by
  simp only [mks,AV.idsL,mk,AV.ids,List.mem_append,List.mem_singleton,Zpy _ _ hf] at hn
  rcases hn with rfl | hn
  ·exact hi 0 h0
  ·cases hn) hO
 refine ⟨c1,c2.mono ?_⟩
 rintro en w' ⟨u,hdr',S',rfl,p1,k3,k4⟩
 exact ⟨u,hdr',S',rfl,p1,ZTn rs v0 d u e5 k3,fun n hn=>by rw [Zxc rs d hrs] at hn;cases hn⟩
theorem ZZ0 {g:FuncId} {cx:Ctx} {keeps:FuncId→List Nat} {n:Nat} (hq:Zf P g (evF cx keeps n g)) {ash:List Sh} {hsh:List (Nat×BSh)} {rs:Sh} {ho:List (Nat×BSh)} (h1:frees ash=true) (h2:free rs=true)
  (h3:(ZpH hsh&&ZpH ho&&hsh.all (fun p=>lowB hsh.length p.2)&&ho.all (fun p=>lowB hsh.length p.2)&&Nat.beq ho.length hsh.length&&leB 1 hsh.length)=true)
  {G:KY (.ptr 0 0::ash)→Zif hsh→Option (ShD rs×Zif ho)} (hG:∀ x y r,G x y=some r→evMX cx keeps n g (.ptr 0 0::ash) hsh rs ho x y=some r):Zf P g (meC (.ptr 0 0::ash) hsh rs ho G):=by
 simp only [Bool.and_eq_true] at h3
 obtain ⟨⟨⟨⟨⟨s1,s2⟩,l1⟩,l2⟩,le⟩,lk⟩:=h3
 have le:=Nat.eq_of_beq_eq_true le
 have lk:=Qa.1 lk
 refine Z0y (ZYC (sh:=ash) (rs:=rs) hq h1 h2) fun args bs v bs2 e=>?_
 simp only [meN,Option.bind_eq_some_iff,Option.map_eq_some_iff,Prod.mk.injEq] at e
 obtain ⟨x,e1,y,e2,⟨r,z⟩,e3,rfl,rfl⟩:=e
 have hb:=ZDy s1 e2
 have hbs:bs=(mkH hsh y).map (·.2):=by rw [← hb,ZLd]
 have hlen:bs.length=hsh.length:=by rw [hbs,List.length_map,ZOl]
 have e4:=hG x y _ e3
 unfold evMX at e4
 rw [Ztp,Kp,Option.bind_eq_some_iff] at e4
 obtain ⟨⟨v0,h2',fb⟩,e5,e6⟩:=e4
 simp only [Option.bind_eq_some_iff,Option.map_eq_some_iff,Prod.mk.injEq] at e6
 obtain ⟨r',e7,bs',e8,z',e9,rfl,rfl⟩:=e6
 have hb':=ZDy s2 e9
 have hbs':bs'=(mkH ho z').map (·.2):=by rw [← hb',ZLd]
 obtain ⟨_,hat⟩:=ZOd e8
 refine ⟨fun n hn=>?_,fun b hbm n hn=>?_,Zxc rs r' h2,?_,fun b hbm n hn=>?_,h2',fb,?_,fun i hi=>?_⟩
 ·have h0:AV.idsL args=[0]∨AV.idsL args=[0]:=by
   cases args with
   | nil=>simp [rds] at e1
   | cons a rr=>
    simp only [rds,Option.bind_eq_some_iff] at e1
    obtain ⟨y0,k1,e1'⟩:=e1
    have ha:a=mk (.ptr 0 0) y0:=YY _ _ _ rfl k1
    cases k3:rds ash rr with
    | none=>rw [k3] at e1';cases e1'
    | some k2=>
     have:=ZnK ash rr k2 h1 k3
     subst ha
     simp [mk,AV.idsL,AV.ids,this]
  have h0:=h0.elim id id
  rw [h0,List.mem_singleton] at hn
  omega
 ·rw [hlen]
  rw [hbs] at hbm
  exact ZLx l1 b hbm n hn
 ·rw [List.length_map,ZOl,hlen,le]
 ·rw [hlen]
  exact ZLx l2 b hbm n hn
 ·have e5':ex (evF cx keeps n g (mks (.ptr 0 0::ash) x)) false ⟨enumB 0 bs,bs.length⟩ ⟨[],[]⟩=some (v0,h2',fb):=by rw [hb,hlen];exact e5
  show ex (Prog.opt (rds _ args) fun x=>(evF cx keeps n g (mks _ x)).bind fun v=>.opt (rd rs v) fun d=>.ret (mk rs d)) false _ _=_
  rw [e1]
  show ex ((evF cx keeps n g (mks _ x)).bind fun v=>.opt (rd rs v) fun d=>.ret (mk rs d)) false _ _=_
  unfold ex
  rw [run_bind,Kp,e5']
  simp only [Option.bind_some,e7,run]
 ·have:=hat i i (by rw [List.getElem?_range (by omega)])
  rw [this,hbs']
def meQ (ash:List Sh) (hsh:List (Nat×BSh)) (rs:Sh) (ho:List (Nat×BSh)) (G:KY ash→Zif hsh→Option (ShD rs×Zif ho)) (args:List AV):Prog AV:=match args with
 | .ptr id _::_=>.get id fun
  | .box cs=>.ite (Qy (id::ZdX cs)) (getsP (id::ZdX cs) fun bs=>
    .opt (rds ash (AV.renL (inOf (id::ZdX cs)) args)) fun x=>.opt (rdH hsh (enumB 0 (bs.map (Blk.ren (inOf (id::ZdX cs)))))) fun y=>.opt (G x y) fun r=>
     putsP (id::ZdX cs) (((mkH ho r.2).map (·.2)).map (Blk.ren (outOf (id::ZdX cs)))) (.ret (mk rs r.1))) .fail
  | .row _ _=>.fail
 | _=>.fail
theorem Z10 {R:Type} {tr:Bool} {K:AV→Hp→Foot→Option R} {k k':List Blk→Prog AV} (e:∀ bs h f,run (k bs) tr h f K=run (k' bs) tr h f K):∀ (ids:List Nat) (h:Hp) (f:Foot) ,run (getsP ids k) tr h f K=run (getsP ids k') tr h f K:=by
 intro ids
 induction ids generalizing k k' with
 | nil=>exact e []
 | cons i ids ih=>
  intro h f
  simp only [getsP,run]
  cases Zr h.blks i with
  | none=>rfl
  | some b=>exact ih (k:=fun bs=>k (b::bs)) (k':=fun bs=>k' (b::bs)) (fun bs=>e (b::bs)) h _
theorem Z4o {ash:List Sh} {hsh:List (Nat×BSh)} {rs:Sh} {ho:List (Nat×BSh)} {G:KY ash→Zif hsh→Option (ShD rs×Zif ho)} (args:List AV) (tr:Bool) (h:Hp) (f:Foot):ex (meQ ash hsh rs ho G args) tr h f=ex (meC ash hsh rs ho G args) tr h f:=by
 unfold meQ meC meP
 cases args with
 | nil=>rfl
 | cons a r=>
 cases a
 case ptr id off=>
  unfold ex
  simp only [run]
  cases Zr h.blks id with
  | none=>rfl
  | some b=>
   cases b with
   | row e l=>rfl
   | box cs=>
    simp only [run]
    cases Qy (id::ZdX cs)
    ·rfl
    ·refine Z10 (fun bs h f=>?_) _ _ _
     simp only [run,meN]
     generalize rds ash _=a
     cases a with
     | none=>rfl
     | some x=>
      simp only [Option.bind_some]
      generalize rdH hsh _=b
      cases b with
      | none=>rfl
      | some y=>
       simp only [Option.bind_some]
       cases G x y<;>rfl
 all_goals rfl
theorem ZPB {g:FuncId} {cx:Ctx} {keeps:FuncId→List Nat} {n:Nat} (hq:Zf P g (evF cx keeps n g)) {ash:List Sh} {hsh:List (Nat×BSh)} {rs:Sh} {ho:List (Nat×BSh)} (h1:frees ash=true) (h2:free rs=true)
  (h3:(ZpH hsh&&ZpH ho&&hsh.all (fun p=>lowB hsh.length p.2)&&ho.all (fun p=>lowB hsh.length p.2)&&Nat.beq ho.length hsh.length&&leB 1 hsh.length)=true)
  {G:KY (.ptr 0 0::ash)→Zif hsh→Option (ShD rs×Zif ho)} (hG:∀ x y r,G x y=some r→evMX cx keeps n g (.ptr 0 0::ash) hsh rs ho x y=some r):Zf P g (meQ (.ptr 0 0::ash) hsh rs ho G):=by
 intro tr args h ft v h' ft' vals hdr S w ok e
 rw [Z4o] at e
 exact ZZ0 hq h1 h2 h3 hG tr args h ft v h' ft' vals hdr S w ok e
end
end
abbrev ZjM:Type:=(((List Int)×((List Int)×(Int×((List C)×(Int×((List En)×((List A)×(Unit×(Unit×((List Int)×Unit))))))))))×((List E)×((List Int)×Unit)))
abbrev ZpU:Type:=(Bool×ZjM)
def Zry:List Sh:=[.ptr 0 0,.int .i64,.int .i64,.dat tE]
def Zuh:List Con:=[⟨112,ZwD,ZIr⟩,⟨113,ZEI,ZQQ⟩,⟨114,ZG8,ZTB⟩]
def ZCk:List Sh:=[.int .i64,.int .i64,.dat tE]
def Zf3:List (Nat×BSh):=[(0,.box [.sl (.int .i64),.sl (.int .i64),.int .i64,.sl tC,.int .i64,.sl tEn,.sl tA,.row 1,.row 2,.sl (.int .i64)]),(1,.row tE),(2,.row (.int .i64))]
def Zi6 (a0 a1:Int) (a2:E) (b0 b1:List Int) (b2:Int) (b3:List C) (b4:Int) (b5:List En) (b6:List A) (b7:List Int) (b8:List E) (b9:List Int):Option ZpU:=bif !a2.1 then some (false,(b0,b1,b2,b3,b4,b5,b6,PUnit.unit,PUnit.unit,b7,PUnit.unit),b8,b9,PUnit.unit) else bif decide (0≤a1) then Za b8[a1.toNat]? none fun d14=>Za b8[a1.toNat]? none fun d15=>Za (Zko ([d15,a2],())) none fun d16=>bif decide (a1≤a0) then bif decide (0≤a1) then Za b9[a1.toNat]? none fun d17=>Za b9[a1.toNat]? none fun d18=>bif decide (d18≥3) then bif decide (0≤a1) then Za b8[a1.toNat]? none fun d19=>Za b8[a1.toNat]? none fun d20=>Za (ZsX (d20,d16,b7,())) none fun d21=>bif decide (0≤a1) then Za b8[a1.toNat]? none fun d22=>Za b8[a1.toNat]? none fun d23=>Za (Znv (d21,d23,())) none fun d24=>bif d24 then some (false,(b0,b1,b2,b3,b4,b5,b6,PUnit.unit,PUnit.unit,b7,PUnit.unit),b8,b9,PUnit.unit) else bif decide (0≤a1) then Za b8[a1.toNat]? none fun d25=>Za b8[a1.toNat]? none fun d26=>bif decide (a1≤a0) then bif decide (0≤a1) then Za b9[a1.toNat]? none fun d27=>Za b9[a1.toNat]? none fun d28=>bif decide (0≤a1) then Za b9[a1.toNat]? none fun d29=>Za b9[a1.toNat]? none fun d30=>some (true,(b0,b1,b2,b3,b4,b5,b6,PUnit.unit,PUnit.unit,b7,PUnit.unit),b8.set a1.toNat d21,b9.set a1.toNat (IntKind.i64.wrap (d28+1)),PUnit.unit) else none else none else some (true,(b0,b1,b2,b3,b4,b5,b6,PUnit.unit,PUnit.unit,b7,PUnit.unit),b8.set a1.toNat d21,b9,PUnit.unit) else none else none else none else bif decide (0≤a1) then Za b8[a1.toNat]? none fun d19=>Za b8[a1.toNat]? none fun d20=>
 Za (Znv (d16,d20,())) none fun d21=>bif d21 then some (false,(b0,b1,b2,b3,b4,b5,b6,PUnit.unit,PUnit.unit,b7,PUnit.unit),b8,b9,PUnit.unit) else bif decide (0≤a1) then Za b8[a1.toNat]? none fun d22=>Za b8[a1.toNat]? none fun d23=>bif decide (a1≤a0) then bif decide (0≤a1) then Za b9[a1.toNat]? none fun d24=>Za b9[a1.toNat]? none fun d25=>bif decide (0≤a1) then Za b9[a1.toNat]? none fun d26=>Za b9[a1.toNat]? none fun d27=>some (true,(b0,b1,b2,b3,b4,b5,b6,PUnit.unit,PUnit.unit,b7,PUnit.unit),b8.set a1.toNat d16,b9.set a1.toNat (IntKind.i64.wrap (d25+1)),PUnit.unit) else none else none else some (true,(b0,b1,b2,b3,b4,b5,b6,PUnit.unit,PUnit.unit,b7,PUnit.unit),b8.set a1.toNat d16,b9,PUnit.unit) else none else none else none else bif decide (0≤a1) then Za b8[a1.toNat]? none fun d17=>Za b8[a1.toNat]? none fun d18=>Za (Znv (d16,d18,())) none fun d19=>bif d19 then some (false,(b0,b1,b2,b3,b4,b5,b6,PUnit.unit,PUnit.unit,b7,PUnit.unit),b8,b9,PUnit.unit) else bif decide (0≤a1) then Za b8[a1.toNat]? none fun d20=>Za b8[a1.toNat]? none fun d21=>bif decide (a1≤a0) then bif decide (0≤a1) then Za b9[a1.toNat]? none fun d22=>Za b9[a1.toNat]? none fun d23=>bif decide (0≤a1) then Za b9[a1.toNat]? none fun d24=>Za b9[a1.toNat]? none fun d25=>some (true,(b0,b1,b2,b3,b4,b5,b6,PUnit.unit,PUnit.unit,b7,PUnit.unit),b8.set a1.toNat d16,b9.set a1.toNat (IntKind.i64.wrap (d23+1)),PUnit.unit) else none else none else some (true,(b0,b1,b2,b3,b4,b5,b6,PUnit.unit,PUnit.unit,b7,PUnit.unit),b8.set a1.toNat d16,b9,PUnit.unit) else none else none else none
theorem ZF7 (a0 a1:Int) (a2:E) (b0 b1:List Int) (b2:Int) (b3:List C) (b4:Int) (b5:List En) (b6:List A) (b7:List Int) (b8:List E) (b9:List Int):evMX (cxU Zuh [] 40 1048576) keeps 8 80 Zry Zf3 (.bool) Zf3 (((),a0,a1,a2,()):(Unit×(Int×(Int×(E×Unit))))) (((b0,b1,b2,b3,b4,b5,b6,(),(),b7,()),b8,b9,()):ZjM)=Zi6 a0 a1 a2 b0 b1 b2 b3 b4 b5 b6 b7 b8 b9:=by kernel_rfl
def ZaU (x:(Unit×(Int×(Int×(E×Unit))))) (y:ZjM):Option ZpU:=Zi6 x.2.1 x.2.2.1 x.2.2.2.1 y.1.1 y.1.2.1 y.1.2.2.1 y.1.2.2.2.1 y.1.2.2.2.2.1 y.1.2.2.2.2.2.1 y.1.2.2.2.2.2.2.1 y.1.2.2.2.2.2.2.2.2.2.1 y.2.1 y.2.2.1
def ZrA:List AV→Prog AV:=meQ Zry Zf3 (.bool) Zf3 ZaU
theorem ZGx:Zf Tryz.prog 80 ZrA:=ZPB (ash:=ZCk) (calU Zuh [] 40 1048576 8 80) (by rfl) (by rfl) (by rfl) (fun x y r e=>(ZF7 x.2.1 x.2.2.1 x.2.2.2.1 y.1.1 y.1.2.1 y.1.2.2.1 y.1.2.2.2.1 y.1.2.2.2.2.1 y.1.2.2.2.2.2.1 y.1.2.2.2.2.2.2.1 y.1.2.2.2.2.2.2.2.2.2.1 y.2.1 y.2.2.1).trans e)
abbrev ZBW:Type:=(Int×Int×Int×Int×(List Int)×Int×Int×(List O)×Bool×(List I)×(List I)×(List I)×Int×Int×Bool×(List I)×(List I)×(List I)×Int×Int×(List Int)×(List En)×(List Ac)×Int×Bool×(List Int)×(List Int)×Int×(List C)×Int×(List En)×(List A)×(List Int)×(List E)×(List Int)×Int×Bool×(List En)×(List Ac)×(List Al))
abbrev ZnO:Type:=(Int×Int×Int×Int×(List O)×Bool×(List I)×(List I)×(List I)×Int×Int×Bool×(List I)×(List I)×(List I)×Int×Int×(List Int)×(List En)×(List Ac)×Int×Bool×(List Int)×(List Int)×Int×(List C)×Int×(List En)×(List A)×(List Int)×(List E)×(List Int)×Int×Bool×(List En)×(List Ac)×(List Al))
abbrev ZBX:Type:=((List O)×Bool×(List I)×(List I)×(List I)×Int×Int×Bool×(List I)×(List I)×(List I)×Int×Int×(List Int)×(List En)×(List Ac)×Int×Bool×(List Int)×(List Int)×Int×(List C)×Int×(List En)×(List A)×(List Int)×(List E)×(List Int)×Int×Bool×(List En)×(List Ac)×(List Al))
abbrev ZBY:Type:=(Int×Int×Int×Int×Bool×(List Int)×(List Int)×Int×(List C)×Int×(List En)×(List A)×(List Int)×(List E)×(List Int)×Int×Bool×(List En)×(List Ac)×(List Al))
abbrev ZBZ:Type:=(Int×Bool×(List Int)×(List Int)×Int×(List C)×Int×(List En)×(List A)×(List Int)×(List E)×(List Int)×Int×Bool×(List En)×(List Ac)×(List Al))
abbrev ZB0:Type:=(Bool×(List A)×Int×Int×Int×Bool×(List Int)×(List Int)×Int×(List C)×Int×(List En)×(List A)×(List Int)×(List E)×(List Int)×Int×Bool)
abbrev ZnP:Type:=(Int×(List A)×Int×Bool×(List Int)×(List Int)×Int×(List C)×Int×(List En)×(List A)×(List Int)×(List E)×(List Int)×Int×Bool)
abbrev ZB1:Type:=(Bool×Int×Bool×(List Int)×(List Int)×Int×(List C)×Int×(List En)×(List A)×(List Int)×(List E)×(List Int)×Int×Bool)
def ZUB:List Sh:=[.dat tU,.dat (.int .i64),.dat (.sl tEn)]
def ZyV:Nat→List Nat:=fun c=>bif c.beq 0 then [0,3,12,13,14] else [3]
def ZyU:Nat→List Nat:=fun c=>bif c.beq 0 then [1,6,7,8,9] else [1,6,7,8,9]
def ZqG:Nat→List Nat:=fun c=>bif c.beq 0 then [0,1,2,12,13,14,39,40,41] else [0,1,2,12,13,14]
def ZqF:Nat→List Nat:=fun c=>bif c.beq 0 then [0,1,2,12,13,14] else []
def ZqE:Nat→List Nat:=fun c=>bif c.beq 0 then [1,6,8,9,57,58] else [6,8,9]
def Zcw:List Con:=[⟨43,Zuv,ZE2⟩,⟨50,Zuw,ZE3⟩,⟨81,Zs8,ZAa⟩,⟨63,Zzt,ZKF⟩,⟨80,ZrA,ZGx⟩]
def ZkX:StS:=⟨[(0,.ptr 1 0),(3,.bool),(12,.sl tA),(13,.int .i64),(14,.int .i64)],[(0,.box [.nil,.nil,.nil,.nil,.int .i64,.bool]),(1,.box [.sl (.int .i64),.sl (.int .i64),.int .i64,.sl tC,.int .i64,.sl tEn,.sl tA,.row 2,.row 3,.sl (.int .i64)]),(2,.row tE),(3,.row (.int .i64)),(4,.box [.nil,.nil,.nil,.nil,.int .i64,.bool])],5⟩
def Zc9:StS:=⟨[(3,.bool)],[(0,.box [.nil,.nil,.nil,.nil,.int .i64,.bool]),(1,.box [.sl (.int .i64),.sl (.int .i64),.int .i64,.sl tC,.int .i64,.sl tEn,.sl tA,.row 2,.row 3,.sl (.int .i64)]),(2,.row tE),(3,.row (.int .i64)),(4,.box [.nil,.nil,.nil,.nil,.int .i64,.bool])],5⟩
abbrev Zb3:=ZB0
def ZJp:StD ZkX→Zb3:=fun ((_,a,b,c,d,_),((_,_,_,_,e,f,_),(g,h,i,j,k,l,m,_,_,n,_),o,p,(_,_,_,_,q,r,_),_))=>(a,b,c,d,e,f,g,h,i,j,k,l,m,n,o,p,q,r)
def ZJ2:Zb3→StD ZkX:=fun (a,b,c,d,e,f,g,h,i,j,k,l,m,n,o,p,q,r)=>(((),a,b,c,d,()),(((),(),(),(),e,f,()),(g,h,i,j,k,l,m,(),(),n,()),o,p,((),(),(),(),q,r,()),()))
abbrev Yf:=ZB1
def ZY2:StD Zc9→Yf:=fun ((a,_),((_,_,_,_,b,c,_),(d,e,f,g,h,i,j,_,_,k,_),l,m,(_,_,_,_,n,o,_),_))=>(a,b,c,d,e,f,g,h,i,j,k,l,m,n,o)
def Zmh:Yf→StD Zc9:=fun (a,b,c,d,e,f,g,h,i,j,k,l,m,n,o)=>((a,()),(((),(),(),(),b,c,()),(d,e,f,g,h,i,j,(),(),k,()),l,m,((),(),(),(),n,o,()),()))
def ZdZ (s3:Bool) (s12:List A) (s13 s14 b0:Int) (b0_1:Bool) (b1 b1_1:List Int) (b1_2:Int) (b1_3:List C) (b1_4:Int) (b1_5:List En) (b1_6:List A) (b1_7:List Int) (b2:List E) (b3:List Int) (b4:Int) (b4_1:Bool):Option (ZB0⊕ZB1):=bif decide (s14<s13) then bif decide (0≤s14) then Za s12[s14.toNat]? none fun d24=>bif decide (0≤s14) then Za b2[s14.toNat]? none fun d25=>Za b2[s14.toNat]? none fun d26=>Za (Ze6 ((b1,b1_1,b1_2,b1_3),b1_4,s14,d26,b1_5,())) none fun d27=>Za (ZaU ((),s14,d24.2.2.2.2.2.2.2.1,d27.1,()) ((b1,b1_1,b1_2,b1_3,b1_4,b1_5,b1_6,(),(),b1_7,()),b2,b3,())) none fun d28=>Za (ZaU ((),s14,d24.2.2.2.2.2.2.2.2,d27.2.1,()) ((d28.2.1.1,d28.2.1.2.1,d28.2.1.2.2.1,d28.2.1.2.2.2.1,d28.2.1.2.2.2.2.1,d28.2.1.2.2.2.2.2.1,d28.2.1.2.2.2.2.2.2.1,(),(),d28.2.1.2.2.2.2.2.2.2.2.2.1,()),d28.2.2.1,d28.2.2.2.1,())) none fun d29=>bif s3 then some (.inl (true,s12,s13,IntKind.i64.wrap (s14+1),b0,b0_1,d29.2.1.1,d29.2.1.2.1,d29.2.1.2.2.1,d29.2.1.2.2.2.1,d29.2.1.2.2.2.2.1,d29.2.1.2.2.2.2.2.1,d29.2.1.2.2.2.2.2.2.1,d29.2.1.2.2.2.2.2.2.2.2.2.1,d29.2.2.1,d29.2.2.2.1,b4,b4_1)) else bif d28.1 then some (.inl (true,s12,s13,IntKind.i64.wrap (s14+1),b0,b0_1,d29.2.1.1,d29.2.1.2.1,d29.2.1.2.2.1,d29.2.1.2.2.2.1,d29.2.1.2.2.2.2.1,d29.2.1.2.2.2.2.2.1,d29.2.1.2.2.2.2.2.2.1,d29.2.1.2.2.2.2.2.2.2.2.2.1,d29.2.2.1,d29.2.2.2.1,b4,b4_1)) else some (.inl (d29.1,s12,s13,IntKind.i64.wrap (s14+1),b0,b0_1,d29.2.1.1,d29.2.1.2.1,d29.2.1.2.2.1,d29.2.1.2.2.2.1,d29.2.1.2.2.2.2.1,d29.2.1.2.2.2.2.2.1,d29.2.1.2.2.2.2.2.2.1,d29.2.1.2.2.2.2.2.2.2.2.2.1,
 d29.2.2.1,d29.2.2.2.1,b4,b4_1)) else none else none else some (.inr (s3,b0,b0_1,b1,b1_1,b1_2,b1_3,b1_4,b1_5,b1_6,b1_7,b2,b3,b4,b4_1))
def ZvH:Zb3→Option (Zb3⊕Yf):=fun (a,b,c,d,e,f,g,h,i,j,k,l,m,n,o,p,q,r)=>ZdZ a b c d e f g h i j k l m n o p q r
def Zfr (x:Zb3):Option Yf:=Zh ZvH Zl x
def ZA5:Nat→Tm→Prog (Nat×Tm):=(varP 5 (fun T h=>(rdS ZkX T h).map ZJp) Zfr (altE 2 Zc9 Zmh) (fun _ _=>.fail))
def KR:Lpc:=⟨51,0,45,(fun base T=>.norm base (ZyV 0) T (ZA5 base)),by kernel_rfl,by kernel_rfl,(loopU Zcw [] 40 1048576 8 (keep:=ZyV) (q:=ZA5) (by kernel_rfl) (Zv (s:=ZkX) (un:=ZJ2) (by rfl) (fun _=>rfl) (Zn (s:=Zc9) (un:=Zmh) (flat:=ZY2) (by rfl) (fun _=>rfl)) (step:=ZvH) (fun _=>by kernel_rfl) (fun _ _ e=>⟨_,e⟩) (Zm 2 Zc9 Zmh) (ZB.fail _ _)))⟩
abbrev Z2p:=cxU Zcw [KR] 40 1048576
def ZkV:StS:=⟨[(1,.int .i64),(6,.ptr 0 0),(7,.sl tA),(8,.ptr 1 0),(9,.ptr 4 0)],[(0,.box [.nil,.nil,.nil,.nil,.int .i64,.bool]),(1,.box [.sl (.int .i64),.sl (.int .i64),.int .i64,.sl tC,.int .i64,.sl tEn,.sl tA,.row 2,.row 3,.sl (.int .i64)]),(2,.row tE),(3,.row (.int .i64)),(4,.box [.nil,.nil,.nil,.nil,.int .i64,.bool])],5⟩
def Zc7:StS:=⟨[(1,.int .i64),(6,.ptr 0 0),(7,.sl tA),(8,.ptr 1 0),(9,.ptr 4 0)],[(0,.box [.nil,.nil,.nil,.nil,.int .i64,.bool]),(1,.box [.sl (.int .i64),.sl (.int .i64),.int .i64,.sl tC,.int .i64,.sl tEn,.sl tA,.row 2,.row 3,.sl (.int .i64)]),(2,.row tE),(3,.row (.int .i64)),(4,.box [.nil,.nil,.nil,.nil,.int .i64,.bool])],5⟩
abbrev Zfv:=ZnP
def ZJn:StD ZkV→Zfv:=fun ((a,_,b,_,_,_),((_,_,_,_,c,d,_),(e,f,g,h,i,j,k,_,_,l,_),m,n,(_,_,_,_,o,p,_),_))=>(a,b,c,d,e,f,g,h,i,j,k,l,m,n,o,p)
def ZJ0:Zfv→StD ZkV:=fun (a,b,c,d,e,f,g,h,i,j,k,l,m,n,o,p)=>((a,(),b,(),(),()),(((),(),(),(),c,d,()),(e,f,g,h,i,j,k,(),(),l,()),m,n,((),(),(),(),o,p,()),()))
abbrev Zht:=ZnP
def ZY0:StD Zc7→Zht:=fun ((a,_,b,_,_,_),((_,_,_,_,c,d,_),(e,f,g,h,i,j,k,_,_,l,_),m,n,(_,_,_,_,o,p,_),_))=>(a,b,c,d,e,f,g,h,i,j,k,l,m,n,o,p)
def Zmf:Zht→StD Zc7:=fun (a,b,c,d,e,f,g,h,i,j,k,l,m,n,o,p)=>((a,(),b,(),(),()),(((),(),(),(),c,d,()),(e,f,g,h,i,j,k,(),(),l,()),m,n,((),(),(),(),o,p,()),()))
def Zjc (s1:Int) (s7:List A) (b0:Int) (b0_1:Bool) (b1 b1_1:List Int) (b1_2:Int) (b1_3:List C) (b1_4:Int) (b1_5:List En) (b1_6:List A) (b1_7:List Int) (b2:List E) (b3:List Int) (b4:Int) (b4_1:Bool):Option (ZnP⊕ZnP):=bif !b4_1 then bif decide (b4<100) then Za (Zfr (false,b1_6,(b1_6.length:Int),0,b0,b0_1,b1,b1_1,b1_2,b1_3,b1_4,b1_5,b1_6,b1_7,b2,b3,IntKind.i64.wrap (b4+1),b4_1)) none fun d22=>some (.inl (s1,s7,d22.2.1,d22.2.2.1,d22.2.2.2.1,d22.2.2.2.2.1,d22.2.2.2.2.2.1,d22.2.2.2.2.2.2.1,d22.2.2.2.2.2.2.2.1,d22.2.2.2.2.2.2.2.2.1,d22.2.2.2.2.2.2.2.2.2.1,d22.2.2.2.2.2.2.2.2.2.2.1,d22.2.2.2.2.2.2.2.2.2.2.2.1,d22.2.2.2.2.2.2.2.2.2.2.2.2.1,d22.2.2.2.2.2.2.2.2.2.2.2.2.2.1,!d22.1)) else some (.inr (s1,s7,b0,b0_1,b1,b1_1,b1_2,b1_3,b1_4,b1_5,b1_6,b1_7,b2,b3,b4,b4_1)) else some (.inr (s1,s7,b0,b0_1,b1,b1_1,b1_2,b1_3,b1_4,b1_5,b1_6,b1_7,b2,b3,b4,b4_1))
def Za0:Zfv→Option (Zfv⊕Zht):=fun (a,b,c,d,e,f,g,h,i,j,k,l,m,n,o,p)=>Zjc a b c d e f g h i j k l m n o p
def Zkp (x:Zfv):Option Zht:=Zh Za0 Zl x
def ZA3:Nat→Tm→Prog (Nat×Tm):=(varP 0 (fun T h=>(rdS ZkV T h).map ZJn) Zkp (altE 2 Zc7 Zmf) (fun _ _=>.fail))
def WY:Lpc:=⟨24,0,75,(fun base T=>.norm base (ZyU 0) T (ZA3 base)),by kernel_rfl,by kernel_rfl,(loopU Zcw [KR] 40 1048576 8 (keep:=ZyU) (q:=ZA3) (by kernel_rfl) (Zv (s:=ZkV) (un:=ZJ0) (by rfl) (fun _=>rfl) (Zn (s:=Zc7) (un:=Zmf) (flat:=ZY0) (by rfl) (fun _=>rfl)) (step:=Za0) (fun _=>by kernel_rfl) (fun _ _ e=>⟨_,e⟩) (Zm 2 Zc7 Zmf) (ZB.fail _ _)))⟩
abbrev Z2s:=cxU Zcw [KR,WY] 40 1048576
def ZkZ:StS:=⟨[(0,.ptr 4 0),(1,.int .i64),(2,.int .i64),(12,.row 32153036021279864200481066319758226432430515945481),(13,.int .i64),(14,.int .i64),(39,.sl (.int .i64)),(40,.int .i64),(41,.int .i64)],[(32153036021279864200481066319758226432430515945481,.row tO),(8,.box [.bool,.sl tI,.sl tI,.sl tI,.int .i64,.int .i64,.bool,.sl tI,.sl tI,.sl tI,.int .i64,.int .i64,.sl (.int .i64),.sl tEn,.sl tAc]),(0,.box [.nil,.nil,.nil,.nil,.int .i64,.bool]),(1,.box [.sl (.int .i64),.sl (.int .i64),.int .i64,.sl tC,.int .i64,.sl tEn,.sl tA,.row 2,.row 3,.sl (.int .i64)]),(2,.row tE),(3,.row (.int .i64)),(4,.box [.nil,.row 32153036021279864200481066319758226432430515945482,.row 32153036021279864200481066319758226432430515945483,.row 32153036021279864200481066319758226432430515945484,.int .i64,.bool]),(32153036021279864200481066319758226432430515945482,.row tEn),(32153036021279864200481066319758226432430515945483,.row tAc),(32153036021279864200481066319758226432430515945484,.row tAl)],32153036021279864200481066319758226432430515945485⟩
def Zdb:StS:=⟨[(0,.ptr 4 0),(1,.int .i64),(2,.int .i64),(12,.row 32153036021279864200481066319758226432430515945481),(13,.int .i64),(14,.int .i64)],[(32153036021279864200481066319758226432430515945481,.row tO),(8,.box [.bool,.sl tI,.sl tI,.sl tI,.int .i64,.int .i64,.bool,.sl tI,.sl tI,.sl tI,.int .i64,.int .i64,.sl (.int .i64),.sl tEn,.sl tAc]),(0,.box [.nil,.nil,.nil,.nil,.int .i64,.bool]),(1,.box [.sl (.int .i64),.sl (.int .i64),.int .i64,.sl tC,.int .i64,.sl tEn,.sl tA,.row 2,.row 3,.sl (.int .i64)]),(2,.row tE),(3,.row (.int .i64)),(4,.box [.nil,.row 32153036021279864200481066319758226432430515945482,.row 32153036021279864200481066319758226432430515945483,.row 32153036021279864200481066319758226432430515945484,.int .i64,.bool]),(32153036021279864200481066319758226432430515945482,.row tEn),(32153036021279864200481066319758226432430515945483,.row tAc),(32153036021279864200481066319758226432430515945484,.row tAl)],32153036021279864200481066319758226432430515945485⟩
abbrev Zb4:=ZBW
def ZJr:StD ZkZ→Zb4:=fun ((_,a,b,_,c,d,e,f,g,_),(h,(i,j,k,l,m,n,o,p,q,r,s,t,u,w,y,_),(_,_,_,_,z,au,_),(aw,ay,az,bu,bw,bz,cu,_,_,cw,_),cy,cz,(_,_,_,_,du,dw,_),dy,dz,eu,_))=>(a,b,c,d,e,f,g,h,i,j,k,l,m,n,o,p,q,r,s,t,u,w,y,z,au,aw,ay,az,bu,bw,bz,cu,cw,cy,cz,du,dw,dy,dz,eu)
def ZJ4:Zb4→StD ZkZ:=fun (a,b,c,d,e,f,g,h,i,j,k,l,m,n,o,p,q,r,s,t,u,w,y,z,au,aw,ay,az,bu,bw,bz,cu,cw,cy,cz,du,dw,dy,dz,eu)=>(((),a,b,(),c,d,e,f,g,()),(h,(i,j,k,l,m,n,o,p,q,r,s,t,u,w,y,()),((),(),(),(),z,au,()),(aw,ay,az,bu,bw,bz,cu,(),(),cw,()),cy,cz,((),(),(),(),du,dw,()),dy,dz,eu,()))
abbrev Yg:=ZnO
def ZY4:StD Zdb→Yg:=fun ((_,a,b,_,c,d,_),(e,(f,g,h,i,j,k,l,m,n,o,p,q,r,s,t,_),(_,_,_,_,u,w,_),(y,z,au,aw,ay,az,bu,_,_,bw,_),bz,cu,(_,_,_,_,cw,cy,_),cz,du,dw,_))=>(a,b,c,d,e,f,g,h,i,j,k,l,m,n,o,p,q,r,s,t,u,w,y,z,au,aw,ay,az,bu,bw,bz,cu,cw,cy,cz,du,dw)
def Zmj:Yg→StD Zdb:=fun (a,b,c,d,e,f,g,h,i,j,k,l,m,n,o,p,q,r,s,t,u,w,y,z,au,aw,ay,az,bu,bw,bz,cu,cw,cy,cz,du,dw)=>(((),a,b,(),c,d,()),(e,(f,g,h,i,j,k,l,m,n,o,p,q,r,s,t,()),((),(),(),(),u,w,()),(y,z,au,aw,ay,az,bu,(),(),bw,()),bz,cu,((),(),(),(),cw,cy,()),cz,du,dw,()))
def Zd0 (s1 s2 s13 s14:Int) (s39:List Int) (s40 s41:Int) (bq0:List O) (b8:Bool) (b8_1 b8_2 b8_3:List I) (b8_4 b8_5:Int) (b8_6:Bool) (b8_7 b8_8 b8_9:List I) (b8_10 b8_11:Int) (b8_12:List Int) (b8_13:List En) (b8_14:List Ac) (b0:Int) (b0_1:Bool) (b1 b1_1:List Int) (b1_2:Int) (b1_3:List C) (b1_4:Int) (b1_5:List En) (b1_6:List A) (b1_7:List Int) (b2:List E) (b3:List Int) (b4:Int) (b4_1:Bool) (bq1:List En) (bq2:List Ac) (bq3:List Al):Option (ZBW⊕ZnO):=bif decide (s41<s40) then bif decide (0≤s41) then Za s39[s41.toNat]? none fun d46=>bif decide ((bq3.length+[(1,s1,s2,d46,0,0)].length+1)*48≤lim) then some (.inl (s1,s2,s13,s14,s39,s40,IntKind.i64.wrap (s41+1),bq0,b8,b8_1,b8_2,b8_3,b8_4,b8_5,b8_6,b8_7,b8_8,b8_9,b8_10,b8_11,b8_12,b8_13,b8_14,b0,b0_1,b1,b1_1,b1_2,b1_3,b1_4,b1_5,b1_6,b1_7,b2,b3,b4,b4_1,bq1,bq2,bq3++[(1,s1,s2,d46,0,0)])) else none else none else some (.inr (s1,s2,s13,s14,bq0,b8,b8_1,b8_2,b8_3,b8_4,b8_5,b8_6,b8_7,b8_8,b8_9,b8_10,b8_11,b8_12,b8_13,b8_14,b0,b0_1,b1,b1_1,b1_2,b1_3,b1_4,b1_5,b1_6,b1_7,b2,b3,b4,b4_1,bq1,bq2,bq3))
def ZvI:Zb4→Option (Zb4⊕Yg):=fun (a,b,c,d,e,f,g,h,i,j,k,l,m,n,o,p,q,r,s,t,u,w,y,z,au,aw,ay,az,bu,bw,bz,cu,cw,cy,cz,du,dw,dy,dz,eu)=>Zd0 a b c d e f g h i j k l m n o p q r s t u w y z au aw ay az bu bw bz cu cw cy cz du dw dy dz eu
def Zks (x:Zb4):Option Yg:=Zh ZvI Zl x
def ZA7:Nat→Tm→Prog (Nat×Tm):=(varP 32153036021279864200481066319758226432430515945482 (fun T h=>(rdS ZkZ T h).map ZJr) Zks (altE 4 Zdb Zmj) (fun _ _=>.fail))
def ZhH:Lpc:=⟨52,2,60,(slP [] [] [(0,1),(0,2),(0,3)] (ZqG 0) (fun base T=>.norm base (ZqG 0) T (ZA7 base))),by kernel_rfl,by kernel_rfl,(ZLJ (loopU Zcw [KR,WY] 40 1048576 8 (keep:=ZqG) (q:=ZA7) (by kernel_rfl) (Zv (s:=ZkZ) (un:=ZJ4) (by rfl) (fun _=>rfl) (Zn (s:=Zdb) (un:=Zmj) (flat:=ZY4) (by rfl) (fun _=>rfl)) (step:=ZvI) (fun _=>by kernel_rfl) (fun _ _ e=>⟨_,e⟩) (Zm 4 Zdb Zmj) (ZB.fail _ _))))⟩
abbrev Z2r:=cxU Zcw [KR,WY,ZhH] 40 1048576
def ZkY:StS:=⟨[(0,.ptr 4 0),(1,.int .i64),(2,.int .i64),(12,.row 32153036021279864200481066319758226432430515945481),(13,.int .i64),(14,.int .i64)],[(32153036021279864200481066319758226432430515945481,.row tO),(8,.box [.bool,.sl tI,.sl tI,.sl tI,.int .i64,.int .i64,.bool,.sl tI,.sl tI,.sl tI,.int .i64,.int .i64,.sl (.int .i64),.sl tEn,.sl tAc]),(0,.box [.nil,.nil,.nil,.nil,.int .i64,.bool]),(1,.box [.sl (.int .i64),.sl (.int .i64),.int .i64,.sl tC,.int .i64,.sl tEn,.sl tA,.row 2,.row 3,.sl (.int .i64)]),(2,.row tE),(3,.row (.int .i64)),(4,.box [.nil,.row 32153036021279864200481066319758226432430515945482,.row 32153036021279864200481066319758226432430515945483,.row 32153036021279864200481066319758226432430515945484,.int .i64,.bool]),(32153036021279864200481066319758226432430515945482,.row tEn),(32153036021279864200481066319758226432430515945483,.row tAc),(32153036021279864200481066319758226432430515945484,.row tAl)],32153036021279864200481066319758226432430515945485⟩
def Zda:StS:=⟨[],[(32153036021279864200481066319758226432430515945481,.row tO),(8,.box [.bool,.sl tI,.sl tI,.sl tI,.int .i64,.int .i64,.bool,.sl tI,.sl tI,.sl tI,.int .i64,.int .i64,.sl (.int .i64),.sl tEn,.sl tAc]),(0,.box [.nil,.nil,.nil,.nil,.int .i64,.bool]),(1,.box [.sl (.int .i64),.sl (.int .i64),.int .i64,.sl tC,.int .i64,.sl tEn,.sl tA,.row 2,.row 3,.sl (.int .i64)]),(2,.row tE),(3,.row (.int .i64)),(4,.box [.nil,.row 32153036021279864200481066319758226432430515945482,.row 32153036021279864200481066319758226432430515945483,.row 32153036021279864200481066319758226432430515945484,.int .i64,.bool]),(32153036021279864200481066319758226432430515945482,.row tEn),(32153036021279864200481066319758226432430515945483,.row tAc),(32153036021279864200481066319758226432430515945484,.row tAl)],32153036021279864200481066319758226432430515945485⟩
abbrev Zfx:=ZnO
def ZJq:StD ZkY→Zfx:=fun ((_,a,b,_,c,d,_),(e,(f,g,h,i,j,k,l,m,n,o,p,q,r,s,t,_),(_,_,_,_,u,w,_),(y,z,au,aw,ay,az,bu,_,_,bw,_),bz,cu,(_,_,_,_,cw,cy,_),cz,du,dw,_))=>(a,b,c,d,e,f,g,h,i,j,k,l,m,n,o,p,q,r,s,t,u,w,y,z,au,aw,ay,az,bu,bw,bz,cu,cw,cy,cz,du,dw)
def ZJ3:Zfx→StD ZkY:=fun (a,b,c,d,e,f,g,h,i,j,k,l,m,n,o,p,q,r,s,t,u,w,y,z,au,aw,ay,az,bu,bw,bz,cu,cw,cy,cz,du,dw)=>(((),a,b,(),c,d,()),(e,(f,g,h,i,j,k,l,m,n,o,p,q,r,s,t,()),((),(),(),(),u,w,()),(y,z,au,aw,ay,az,bu,(),(),bw,()),bz,cu,((),(),(),(),cw,cy,()),cz,du,dw,()))
abbrev Zhv:=ZBX
def ZY3:StD Zda→Zhv:=fun (_,(a,(b,c,d,e,f,g,h,i,j,k,l,m,n,o,p,_),(_,_,_,_,q,r,_),(s,t,u,w,y,z,au,_,_,aw,_),ay,az,(_,_,_,_,bu,bw,_),bz,cu,cw,_))=>(a,b,c,d,e,f,g,h,i,j,k,l,m,n,o,p,q,r,s,t,u,w,y,z,au,aw,ay,az,bu,bw,bz,cu,cw)
def Zmi:Zhv→StD Zda:=fun (a,b,c,d,e,f,g,h,i,j,k,l,m,n,o,p,q,r,s,t,u,w,y,z,au,aw,ay,az,bu,bw,bz,cu,cw)=>((),(a,(b,c,d,e,f,g,h,i,j,k,l,m,n,o,p,()),((),(),(),(),q,r,()),(s,t,u,w,y,z,au,(),(),aw,()),ay,az,((),(),(),(),bu,bw,()),bz,cu,cw,()))
def ZvG (s1 s2 s13 s14:Int) (bq0:List O) (b8:Bool) (b8_1 b8_2 b8_3:List I) (b8_4 b8_5:Int) (b8_6:Bool) (b8_7 b8_8 b8_9:List I) (b8_10 b8_11:Int) (b8_12:List Int) (b8_13:List En) (b8_14:List Ac) (b0:Int) (b0_1:Bool) (b1 b1_1:List Int) (b1_2:Int) (b1_3:List C) (b1_4:Int) (b1_5:List En) (b1_6:List A) (b1_7:List Int) (b2:List E) (b3:List Int) (b4:Int) (b4_1:Bool) (bq1:List En) (bq2:List Ac) (bq3:List Al):Option (ZnO⊕ZBX):=bif decide (s14<s13) then bif decide (0≤s14) then Za bq0[s14.toNat]? none fun d43=>Za bq0[s14.toNat]? none fun d44=>Za (Zhb (bq1,d44.2.2.2.1,())) none fun d45=>bif decide ((bq2.length+List.length d44.2.2.2.2+1)*48≤lim) then Za (Zks (s1,s2,s13,s14,d44.2.2.1,(List.length d44.2.2.1:Int),0,bq0,b8,b8_1,b8_2,b8_3,b8_4,b8_5,b8_6,b8_7,b8_8,b8_9,b8_10,b8_11,b8_12,b8_13,b8_14,b0,b0_1,b1,b1_1,b1_2,b1_3,b1_4,b1_5,b1_6,b1_7,b2,b3,b4,b4_1,d45,bq2++d44.2.2.2.2,bq3)) none fun d46=>some (.inl (d46.1,d46.2.1,d46.2.2.1,IntKind.i64.wrap (d46.2.2.2.1+1),d46.2.2.2.2.1,d46.2.2.2.2.2.1,d46.2.2.2.2.2.2.1,d46.2.2.2.2.2.2.2.1,d46.2.2.2.2.2.2.2.2.1,d46.2.2.2.2.2.2.2.2.2.1,d46.2.2.2.2.2.2.2.2.2.2.1,d46.2.2.2.2.2.2.2.2.2.2.2.1,d46.2.2.2.2.2.2.2.2.2.2.2.2.1,d46.2.2.2.2.2.2.2.2.2.2.2.2.2.1,d46.2.2.2.2.2.2.2.2.2.2.2.2.2.2.1,d46.2.2.2.2.2.2.2.2.2.2.2.2.2.2.2.1,d46.2.2.2.2.2.2.2.2.2.2.2.2.2.2.2.2.1,d46.2.2.2.2.2.2.2.2.2.2.2.2.2.2.2.2.2.1,d46.2.2.2.2.2.2.2.2.2.2.2.2.2.2.2.2.2.2.1,d46.2.2.2.2.2.2.2.2.2.2.2.2.2.2.2.2.2.2.2.1,d46.2.2.2.2.2.2.2.2.2.2.2.2.2.2.2.2.2.2.2.2.1,d46.2.2.2.2.2.2.2.2.2.2.2.2.2.2.2.2.2.2.2.2.2.1,d46.2.2.2.2.2.2.2.2.2.2.2.2.2.2.2.2.2.2.2.2.2.2.1,
 d46.2.2.2.2.2.2.2.2.2.2.2.2.2.2.2.2.2.2.2.2.2.2.2.1,d46.2.2.2.2.2.2.2.2.2.2.2.2.2.2.2.2.2.2.2.2.2.2.2.2.1,d46.2.2.2.2.2.2.2.2.2.2.2.2.2.2.2.2.2.2.2.2.2.2.2.2.2.1,d46.2.2.2.2.2.2.2.2.2.2.2.2.2.2.2.2.2.2.2.2.2.2.2.2.2.2.1,d46.2.2.2.2.2.2.2.2.2.2.2.2.2.2.2.2.2.2.2.2.2.2.2.2.2.2.2.1,d46.2.2.2.2.2.2.2.2.2.2.2.2.2.2.2.2.2.2.2.2.2.2.2.2.2.2.2.2.1,d46.2.2.2.2.2.2.2.2.2.2.2.2.2.2.2.2.2.2.2.2.2.2.2.2.2.2.2.2.2.1,d46.2.2.2.2.2.2.2.2.2.2.2.2.2.2.2.2.2.2.2.2.2.2.2.2.2.2.2.2.2.2.1,d46.2.2.2.2.2.2.2.2.2.2.2.2.2.2.2.2.2.2.2.2.2.2.2.2.2.2.2.2.2.2.2.1,d46.2.2.2.2.2.2.2.2.2.2.2.2.2.2.2.2.2.2.2.2.2.2.2.2.2.2.2.2.2.2.2.2.1,d46.2.2.2.2.2.2.2.2.2.2.2.2.2.2.2.2.2.2.2.2.2.2.2.2.2.2.2.2.2.2.2.2.2.1,d46.2.2.2.2.2.2.2.2.2.2.2.2.2.2.2.2.2.2.2.2.2.2.2.2.2.2.2.2.2.2.2.2.2.2.1,d46.2.2.2.2.2.2.2.2.2.2.2.2.2.2.2.2.2.2.2.2.2.2.2.2.2.2.2.2.2.2.2.2.2.2.2.1,d46.2.2.2.2.2.2.2.2.2.2.2.2.2.2.2.2.2.2.2.2.2.2.2.2.2.2.2.2.2.2.2.2.2.2.2.2)) else none else none else some (.inr (bq0,b8,b8_1,b8_2,b8_3,b8_4,b8_5,b8_6,b8_7,b8_8,b8_9,b8_10,b8_11,b8_12,b8_13,b8_14,b0,b0_1,b1,b1_1,b1_2,b1_3,b1_4,b1_5,b1_6,b1_7,b2,b3,b4,b4_1,bq1,bq2,bq3))
def Zor:Zfx→Option (Zfx⊕Zhv):=fun (a,b,c,d,e,f,g,h,i,j,k,l,m,n,o,p,q,r,s,t,u,w,y,z,au,aw,ay,az,bu,bw,bz,cu,cw,cy,cz,du,dw)=>ZvG a b c d e f g h i j k l m n o p q r s t u w y z au aw ay az bu bw bz cu cw cy cz du dw
def Zkr (x:Zfx):Option Zhv:=Zh Zor Zl x
def ZA6:Nat→Tm→Prog (Nat×Tm):=(varP 32153036021279864200481066319758226432430515945482 (fun T h=>(rdS ZkY T h).map ZJq) Zkr (altE 2 Zda Zmi) (fun _ _=>.fail))
def ZqJ:Lpc:=⟨52,0,60,(slP [] [] [(0,1),(0,2),(0,3)] (ZqF 0) (fun base T=>.norm base (ZqF 0) T (ZA6 base))),by kernel_rfl,by kernel_rfl,(ZLJ (loopU Zcw [KR,WY,ZhH] 40 1048576 8 (keep:=ZqF) (q:=ZA6) (by kernel_rfl) (Zv (s:=ZkY) (un:=ZJ3) (by rfl) (fun _=>rfl) (Zn (s:=Zda) (un:=Zmi) (flat:=ZY3) (by rfl) (fun _=>rfl)) (step:=Zor) (fun _=>by kernel_rfl) (fun _ _ e=>⟨_,e⟩) (Zm 2 Zda Zmi) (ZB.fail _ _))))⟩
abbrev Z2q:=cxU Zcw [KR,WY,ZhH,ZqJ] 40 1048576
def ZkW:StS:=⟨[(1,.int .i64),(6,.ptr 0 0),(8,.ptr 1 0),(9,.ptr 4 0),(57,.int .i64),(58,.int .i64)],[(0,.box [.nil,.nil,.nil,.nil,.int .i64,.bool]),(1,.box [.sl (.int .i64),.sl (.int .i64),.int .i64,.sl tC,.int .i64,.sl tEn,.sl tA,.row 2,.row 3,.sl (.int .i64)]),(2,.row tE),(3,.row (.int .i64)),(4,.box [.nil,.row 5,.row 6,.row 7,.int .i64,.bool]),(5,.row tEn),(6,.row tAc),(7,.row tAl)],8⟩
def Zc8:StS:=⟨[(6,.ptr 0 0),(8,.ptr 1 0),(9,.ptr 4 0)],[(0,.box [.nil,.nil,.nil,.nil,.int .i64,.bool]),(1,.box [.sl (.int .i64),.sl (.int .i64),.int .i64,.sl tC,.int .i64,.sl tEn,.sl tA,.row 2,.row 3,.sl (.int .i64)]),(2,.row tE),(3,.row (.int .i64)),(4,.box [.nil,.row 5,.row 6,.row 7,.int .i64,.bool]),(5,.row tEn),(6,.row tAc),(7,.row tAl)],8⟩
abbrev Zfw:=ZBY
def ZJo:StD ZkW→Zfw:=fun ((a,_,_,_,b,c,_),((_,_,_,_,d,e,_),(f,g,h,i,j,k,l,_,_,m,_),n,o,(_,_,_,_,p,q,_),r,s,t,_))=>(a,b,c,d,e,f,g,h,i,j,k,l,m,n,o,p,q,r,s,t)
def ZJ1:Zfw→StD ZkW:=fun (a,b,c,d,e,f,g,h,i,j,k,l,m,n,o,p,q,r,s,t)=>((a,(),(),(),b,c,()),(((),(),(),(),d,e,()),(f,g,h,i,j,k,l,(),(),m,()),n,o,((),(),(),(),p,q,()),r,s,t,()))
abbrev Zhu:=ZBZ
def ZY1:StD Zc8→Zhu:=fun ((_,_,_,_),((_,_,_,_,a,b,_),(c,d,e,f,g,h,i,_,_,j,_),k,l,(_,_,_,_,m,n,_),o,p,q,_))=>(a,b,c,d,e,f,g,h,i,j,k,l,m,n,o,p,q)
def Zmg:Zhu→StD Zc8:=fun (a,b,c,d,e,f,g,h,i,j,k,l,m,n,o,p,q)=>(((),(),(),()),(((),(),(),(),a,b,()),(c,d,e,f,g,h,i,(),(),j,()),k,l,((),(),(),(),m,n,()),o,p,q,()))
def Zoq (s1 s57 s58 b0:Int) (b0_1:Bool) (b1 b1_1:List Int) (b1_2:Int) (b1_3:List C) (b1_4:Int) (b1_5:List En) (b1_6:List A) (b1_7:List Int) (b2:List E) (b3:List Int) (b4:Int) (b4_1:Bool) (b5:List En) (b6:List Ac) (b7:List Al):Option (ZBY⊕ZBZ):=bif decide (s58<s57) then bif decide (0≤s58) then Za b2[s58.toNat]? none fun d26=>Za b2[s58.toNat]? none fun d27=>Za (Ze6 ((b1,b1_1,b1_2,b1_3),b1_4,s58,d27,b1_5,())) none fun d28=>Za (Zkr (s1,s58,(↑[d28].length:Int),0,[d28],d28.1.1,d28.1.2.1,d28.1.2.2.1,d28.1.2.2.2.1,d28.1.2.2.2.2.1,d28.1.2.2.2.2.2,d28.2.1.1,d28.2.1.2.1,d28.2.1.2.2.1,d28.2.1.2.2.2.1,d28.2.1.2.2.2.2.1,d28.2.1.2.2.2.2.2,d28.2.2.1,d28.2.2.2.1,d28.2.2.2.2,b0,b0_1,b1,b1_1,b1_2,b1_3,b1_4,b1_5,b1_6,b1_7,b2,b3,b4,b4_1,b5,b6,b7)) none fun d29=>some (.inl (s1,s57,IntKind.i64.wrap (s58+1),d29.2.2.2.2.2.2.2.2.2.2.2.2.2.2.2.2.1,d29.2.2.2.2.2.2.2.2.2.2.2.2.2.2.2.2.2.1,d29.2.2.2.2.2.2.2.2.2.2.2.2.2.2.2.2.2.2.1,d29.2.2.2.2.2.2.2.2.2.2.2.2.2.2.2.2.2.2.2.1,d29.2.2.2.2.2.2.2.2.2.2.2.2.2.2.2.2.2.2.2.2.1,d29.2.2.2.2.2.2.2.2.2.2.2.2.2.2.2.2.2.2.2.2.2.1,d29.2.2.2.2.2.2.2.2.2.2.2.2.2.2.2.2.2.2.2.2.2.2.1,d29.2.2.2.2.2.2.2.2.2.2.2.2.2.2.2.2.2.2.2.2.2.2.2.1,d29.2.2.2.2.2.2.2.2.2.2.2.2.2.2.2.2.2.2.2.2.2.2.2.2.1,d29.2.2.2.2.2.2.2.2.2.2.2.2.2.2.2.2.2.2.2.2.2.2.2.2.2.1,d29.2.2.2.2.2.2.2.2.2.2.2.2.2.2.2.2.2.2.2.2.2.2.2.2.2.2.1,d29.2.2.2.2.2.2.2.2.2.2.2.2.2.2.2.2.2.2.2.2.2.2.2.2.2.2.2.1,d29.2.2.2.2.2.2.2.2.2.2.2.2.2.2.2.2.2.2.2.2.2.2.2.2.2.2.2.2.1,d29.2.2.2.2.2.2.2.2.2.2.2.2.2.2.2.2.2.2.2.2.2.2.2.2.2.2.2.2.2.1,d29.2.2.2.2.2.2.2.2.2.2.2.2.2.2.2.2.2.2.2.2.2.2.2.2.2.2.2.2.2.2.1,
 d29.2.2.2.2.2.2.2.2.2.2.2.2.2.2.2.2.2.2.2.2.2.2.2.2.2.2.2.2.2.2.2.1,d29.2.2.2.2.2.2.2.2.2.2.2.2.2.2.2.2.2.2.2.2.2.2.2.2.2.2.2.2.2.2.2.2)) else none else some (.inr (b0,b0_1,b1,b1_1,b1_2,b1_3,b1_4,b1_5,b1_6,b1_7,b2,b3,b4,b4_1,b5,b6,b7))
def Zd6:Zfw→Option (Zfw⊕Zhu):=fun (a,b,c,d,e,f,g,h,i,j,k,l,m,n,o,p,q,r,s,t)=>Zoq a b c d e f g h i j k l m n o p q r s t
def Zkq (x:Zfw):Option Zhu:=Zh Zd6 Zl x
def ZA4:Nat→Tm→Prog (Nat×Tm):=(varP 0 (fun T h=>(rdS ZkW T h).map ZJo) Zkq (altE 4 Zc8 Zmg) (fun _ _=>.fail))
def ZMz:Lpc:=⟨24,2,75,(ownP [(4,1,tEn),(4,2,tAc),(4,3,tAl)] [] (ZqE 0) (fun base T=>.norm base (ZqE 0) T (ZA4 base))),by kernel_rfl,by kernel_rfl,(Ja (loopU Zcw [KR,WY,ZhH,ZqJ] 40 1048576 8 (keep:=ZqE) (q:=ZA4) (by kernel_rfl) (Zv (s:=ZkW) (un:=ZJ1) (by rfl) (fun _=>rfl) (Zn (s:=Zc8) (un:=Zmg) (flat:=ZY1) (by rfl) (fun _=>rfl)) (step:=Zd6) (fun _=>by kernel_rfl) (fun _ _ e=>⟨_,e⟩) (Zm 4 Zc8 Zmg) (ZB.fail _ _))))⟩
def Zki (a0:U) (a1:Int) (a2:List En):Option Re:=bif decide (0≤a1) then Za a0.2.2.2[a1.toNat]? none fun d9=>bif decide (0≤(List.length d9.2:Int)∧(List.length d9.2:Int)=(List.length d9.2:Int)∧(List.length d9.2:Int).toNat*(96+1)≤lim) then bif decide (0≤(List.length d9.2:Int)∧(List.length d9.2:Int)=(List.length d9.2:Int)∧(List.length d9.2:Int).toNat*(8+1)≤lim) then Za (Zlv (a0,())) none fun d10=>Za (Zlw (a0,a1,())) none fun d11=>Za (List.replicate (List.length d9.2:Int).toNat ((false,[],[],[],0,0):E))[Int.toNat (0:Int)]? none fun d12=>Za (List.replicate (List.length d9.2:Int).toNat ((false,[],[],[],0,0):E))[Int.toNat (0:Int)]? none fun d13=>Za (Zkp (a1,d9.2,0,false,a0.1,a0.2.1,a0.2.2.1,a0.2.2.2,a1,a2,d9.2,d10,(List.replicate (List.length d9.2:Int).toNat ((false,[],[],[],0,0):E)).set (Int.toNat (0:Int)) d11,List.replicate (List.length d9.2:Int).toNat 0,0,false)) none fun d14=>Za (Zkq (d14.1,(d14.2.1.length:Int),0,d14.2.2.1,d14.2.2.2.1,d14.2.2.2.2.1,d14.2.2.2.2.2.1,d14.2.2.2.2.2.2.1,d14.2.2.2.2.2.2.2.1,d14.2.2.2.2.2.2.2.2.1,d14.2.2.2.2.2.2.2.2.2.1,d14.2.2.2.2.2.2.2.2.2.2.1,d14.2.2.2.2.2.2.2.2.2.2.2.1,d14.2.2.2.2.2.2.2.2.2.2.2.2.1,d14.2.2.2.2.2.2.2.2.2.2.2.2.2.1,d14.2.2.2.2.2.2.2.2.2.2.2.2.2.2.1,d14.2.2.2.2.2.2.2.2.2.2.2.2.2.2.2,[],[],[])) none fun d15=>some (d15.2.2.2.2.2.2.2.2.2.2.1,d15.2.2.2.2.2.2.2.2.2.2.2.2.2.2.1,d15.2.2.2.2.2.2.2.2.2.2.2.2.2.2.2.1,d15.2.2.2.2.2.2.2.2.2.2.2.2.2.2.2.2,d15.2.2.2.2.2.2.2.2.2.2.2.2.1,d15.2.2.2.2.2.2.2.2.2.2.2.2.2.1) else none else none else none
def Ya (x:(U×(Int×((List En)×Unit)))):Option Re:=Zki x.1 x.2.1 x.2.2.1
def Zig:=conP true ZUB (.dat tR) Ya
theorem ZlG:Zf Tryz.prog 24 Zig:=Ze (calU Zcw [KR,WY,ZhH,ZqJ,ZMz] 40 1048576 8 24) true (by rfl) (by rfl) (fun x r e=>(Zk _ _ _ _ _ _ _).trans ((show _=Ya x by kernel_rfl).trans e)) (.inl rfl)
abbrev Zcx:Type:=((Unit×(Unit×((List Int)×Unit)))×((List E)×((List Int)×Unit)))
def ZhG (a0 a1:Int) (a2:E) (b0:List Int) (b1:List E) (b2:List Int):Option (Bool×Zcx):=bif !a2.1 then some (false,(PUnit.unit,PUnit.unit,b0,PUnit.unit),b1,b2,PUnit.unit) else bif decide (0≤a1) then Za b1[a1.toNat]? none fun d7=>Za b1[a1.toNat]? none fun d8=>Za (Zfm (d8,a2,())) none fun d9=>bif decide (a1≤a0) then bif decide (0≤a1) then Za b2[a1.toNat]? none fun d10=>Za b2[a1.toNat]? none fun d11=>bif decide (d11≥3) then bif decide (0≤a1) then Za b1[a1.toNat]? none fun d12=>Za b1[a1.toNat]? none fun d13=>Za (ZoP (d13,d9,b0,())) none fun d14=>bif decide (0≤a1) then Za b1[a1.toNat]? none fun d15=>Za b1[a1.toNat]? none fun d16=>Za (WH (d14,d16,())) none fun d17=>bif d17 then some (false,(PUnit.unit,PUnit.unit,b0,PUnit.unit),b1,b2,PUnit.unit) else bif decide (0≤a1) then Za b1[a1.toNat]? none fun d18=>Za b1[a1.toNat]? none fun d19=>bif decide (a1≤a0) then bif decide (0≤a1) then Za b2[a1.toNat]? none fun d20=>Za b2[a1.toNat]? none fun d21=>bif decide (0≤a1) then Za b2[a1.toNat]? none fun d22=>Za b2[a1.toNat]? none fun d23=>some (true,(PUnit.unit,PUnit.unit,b0,PUnit.unit),b1.set a1.toNat d14,b2.set a1.toNat (IntKind.i64.wrap (d21+1)),PUnit.unit) else none else none else some (true,(PUnit.unit,PUnit.unit,b0,PUnit.unit),b1.set a1.toNat d14,b2,PUnit.unit) else none else none else none else bif decide (0≤a1) then Za b1[a1.toNat]? none fun d12=>Za b1[a1.toNat]? none fun d13=>Za (WH (d9,d13,())) none fun d14=>bif d14 then some (false,(PUnit.unit,PUnit.unit,b0,PUnit.unit),b1,b2,PUnit.unit) else bif decide (0≤a1) then Za b1[a1.toNat]? none fun d15=>
 Za b1[a1.toNat]? none fun d16=>bif decide (a1≤a0) then bif decide (0≤a1) then Za b2[a1.toNat]? none fun d17=>Za b2[a1.toNat]? none fun d18=>bif decide (0≤a1) then Za b2[a1.toNat]? none fun d19=>Za b2[a1.toNat]? none fun d20=>some (true,(PUnit.unit,PUnit.unit,b0,PUnit.unit),b1.set a1.toNat d9,b2.set a1.toNat (IntKind.i64.wrap (d18+1)),PUnit.unit) else none else none else some (true,(PUnit.unit,PUnit.unit,b0,PUnit.unit),b1.set a1.toNat d9,b2,PUnit.unit) else none else none else none else bif decide (0≤a1) then Za b1[a1.toNat]? none fun d10=>Za b1[a1.toNat]? none fun d11=>Za (WH (d9,d11,())) none fun d12=>bif d12 then some (false,(PUnit.unit,PUnit.unit,b0,PUnit.unit),b1,b2,PUnit.unit) else bif decide (0≤a1) then Za b1[a1.toNat]? none fun d13=>Za b1[a1.toNat]? none fun d14=>bif decide (a1≤a0) then bif decide (0≤a1) then Za b2[a1.toNat]? none fun d15=>Za b2[a1.toNat]? none fun d16=>bif decide (0≤a1) then Za b2[a1.toNat]? none fun d17=>Za b2[a1.toNat]? none fun d18=>some (true,(PUnit.unit,PUnit.unit,b0,PUnit.unit),b1.set a1.toNat d9,b2.set a1.toNat (IntKind.i64.wrap (d16+1)),PUnit.unit) else none else none else some (true,(PUnit.unit,PUnit.unit,b0,PUnit.unit),b1.set a1.toNat d9,b2,PUnit.unit) else none else none else none
def Vt (x:(Unit×(Int×(Int×(E×Unit))))) (y:Zcx):Option (Bool×Zcx):=ZhG x.2.1 x.2.2.1 x.2.2.2.1 y.1.2.2.1 y.2.1 y.2.2.1
section
open Go.Proofs
def okE (u:U) (t:Int) (x:E):Prop:=x=offE∨(x.1=true∧envOK u t x)
section
variable {u:U} {t:Int}
theorem okE.env {x:E} (h:okE u t x):x.1=true→envOK u t x:=fun k=>by
 rcases h with rfl | h
 ·cases k
 ·exact h.2
theorem okE.sz {x:E} (hu:unitOK u) (h:okE u t x):szE x:=by
 rcases h with rfl | h
 ·exact ⟨by decide,by decide,by decide⟩
 ·exact Zqi hu h.2
def nxtV (st:List Int) (fr to:Int) (old e:E) (n:Int):E:=if to≤fr∧n≥3 then eJoin (widF st) old (eJoin Zg old e) else eJoin Zg old e
def comeV (st:List Int) (fr to:Int) (e:E) (es:List E) (ns:List Int):Bool×List E×List Int:=
 match e.1,es[to.toNat]?,ns[to.toNat]? with
 | true,some old,some n=>bif sameE (nxtV st fr to old e n) old then (false,es,ns) else (true,es.set to.toNat (nxtV st fr to old e n),if to≤fr then ns.set to.toNat (IntKind.i64.wrap (n+1)) else ns)
 | _,_,_=>(false,es,ns)
theorem ZlD {F:I→I→I} {a b:E} (h:b.1=true):(eJoin F a b).1=true:=by
 unfold eJoin
 cases ha:a.1<;>rw [h]<;>simp only [cond_true,cond_false]
 ·exact h
 ·rfl
theorem Z0a {st:List Int} {fr to:Int} {old e:E} {n:Int} (ho:okE u t old) (he1:e.1=true) (he:envOK u t e):(nxtV st fr to old e n).1=true∧envOK u t (nxtV st fr to old e n):=by
 have h1:=ZlD (F:=Zg) (a:=old) he1
 have h2:=ZmQ Zxh ho.env (fun _=>he) h1
 unfold nxtV
 split
 ·exact ⟨ZlD h1,ZmQ (ZOq st) ho.env (fun _=>h2) (ZlD h1)⟩
 ·exact ⟨h1,h2⟩
theorem ZZ3 (hu:unitOK u) {st:List Int} (hst:st.length<9223372036854775807) {fr to:Int} {e:E} {es:List E} {ns:List Int} (hes:∀ x∈es,okE u t x) (he:e.1=true→envOK u t e) (h0:0≤to) (h1:to.toNat<es.length) (hl:ns.length=es.length) :
  ZhG fr to e st es ns=some ((comeV st fr to e es ns).1,((),(),st,()),(comeV st fr to e es ns).2.1,(comeV st fr to e es ns).2.2,()):=by
 unfold ZhG comeV
 cases he1:e.1
 ·rfl
 have he:=he he1
 have e0:decide (0≤to)=true:=dT0 h0
 have g1:es[to.toNat]? = some es[to.toNat]:=List.getElem?_eq_getElem h1
 have g2:ns[to.toNat]? = some (ns[to.toNat]'(by omega)):=List.getElem?_eq_getElem _
 have ho:=hes _ (List.getElem_mem h1)
 generalize es[to.toNat]=old at g1 ho
 generalize ns[to.toNat]'(by omega)=n at g2
 have s0:=ho.sz hu
 have j0:Zqx old e=some (eJoin Zg old e):=by rw [ZH8 s0,ZSj (fun x y hx hy=>Zca hy) ho.env (fun _=>he)]
 have k1:=ZlD (F:=Zg) (a:=old) he1
 have k2:=ZmQ Zxh ho.env (fun _=>he) k1
 have w0:ZoY old (eJoin Zg old e) st=some (eJoin (widF st) old (eJoin Zg old e)):=by
  rw [ZQK hst s0,ZSj (F:=widF st) (G:=rwidF st) (fun x y hx hy=>Z0N hx hy st) ho.env (fun _=>k2)]
 have k3:=ZlD (F:=widF st) (a:=old) k1
 have k4:=ZmQ (ZOq st) ho.env (fun _=>k2) k3
 have s1:=ZuK (a:=eJoin Zg old e) (b:=old) fun _=>Zqi hu k2
 have s2:=ZuK (a:=eJoin (widF st) old (eJoin Zg old e)) (b:=old) fun _=>Zqi hu k4
 simp only [Bool.not_true,cond_false,cond_true,e0,g1,g2,Zb,Zfm,ZoP,WH,j0,w0,s1,s2]
 unfold nxtV
 by_cases c1:to≤fr
 ·by_cases c2:n≥3
  ·rw [dT0 c1,dT0 c2,if_pos ⟨c1,c2⟩,if_pos c1]
   cases sameE (eJoin (widF st) old (eJoin Zg old e)) old<;>rfl
  ·rw [dT0 c1,dF0 c2,if_neg (fun k=>c2 k.2),if_pos c1]
   cases sameE (eJoin Zg old e) old<;>rfl
 ·rw [dF0 c1,if_neg (fun k=>c1 k.1),if_neg c1]
  cases sameE (eJoin Zg old e) old<;>rfl
theorem ZXl (hu:unitOK u) {st:List Int} (hst:st.length<9223372036854775807) {fr to:Int} {e:E} {es:List E} {ns:List Int} {b0 b1:List Int} {b2:Int} {b3:List C} {b4:Int} {b5:List En} {b6:List A} (hes:∀ x∈es,okE u t x) (he:e.1=true→envOK u t e) (h0:0≤to) (h1:to.toNat<es.length) (hl:ns.length=es.length) :
  Zi6 fr to e b0 b1 b2 b3 b4 b5 b6 st es ns=some ((comeV st fr to e es ns).1,(b0,b1,b2,b3,b4,b5,b6,(),(),st,()),(comeV st fr to e es ns).2.1,(comeV st fr to e es ns).2.2,()):=by
 unfold Zi6 comeV
 cases he1:e.1
 ·rfl
 have he:=he he1
 have e0:decide (0≤to)=true:=dT0 h0
 have g1:es[to.toNat]? = some es[to.toNat]:=List.getElem?_eq_getElem h1
 have g2:ns[to.toNat]? = some (ns[to.toNat]'(by omega)):=List.getElem?_eq_getElem _
 have ho:=hes _ (List.getElem_mem h1)
 generalize es[to.toNat]=old at g1 ho
 generalize ns[to.toNat]'(by omega)=n at g2
 have s0:=ho.sz hu
 have se:=Zqi hu he
 have j0:=ZME s0 se
 have k1:=ZlD (F:=Zg) (a:=old) he1
 have k2:=ZmQ Zxh ho.env (fun _=>he) k1
 have w0:=ZVw (b:=eJoin Zg old e) hst s0 (Zqi hu k2)
 have k3:=ZlD (F:=widF st) (a:=old) k1
 have k4:=ZmQ (ZOq st) ho.env (fun _=>k2) k3
 have s1:=ZMF (a:=eJoin Zg old e) (b:=old) fun _=>Zqi hu k2
 have s2:=ZMF (a:=eJoin (widF st) old (eJoin Zg old e)) (b:=old) fun _=>Zqi hu k4
 simp only [Bool.not_true,cond_false,cond_true,e0,g1,g2,Zb,Zko,ZsX,Znv,j0,w0,s1,s2]
 unfold nxtV
 by_cases c1:to≤fr
 ·by_cases c2:n≥3
  ·rw [dT0 c1,dT0 c2,if_pos ⟨c1,c2⟩,if_pos c1]
   cases sameE (eJoin (widF st) old (eJoin Zg old e)) old<;>rfl
  ·rw [dT0 c1,dF0 c2,if_neg (fun k=>c2 k.2),if_pos c1]
   cases sameE (eJoin Zg old e) old<;>rfl
 ·rw [dF0 c1,if_neg (fun k=>c1 k.1),if_neg c1]
  cases sameE (eJoin Zg old e) old<;>rfl
theorem ZIW {st:List Int} {fr to:Int} {e:E} {es:List E} {ns:List Int} (hes:∀ x∈es,okE u t x) (he:e.1=true→envOK u t e) :
  (∀ x∈(comeV st fr to e es ns).2.1,okE u t x)∧(comeV st fr to e es ns).2.1.length=es.length∧(comeV st fr to e es ns).2.2.length=ns.length:=by
 unfold comeV
 split
 ·rename_i old n he1 g1 g2
  cases sameE (nxtV st fr to old e n) old
  ·simp only [cond_false]
   refine ⟨fun x hx=>?_,by simp,by split<;>simp⟩
   rcases List.mem_or_eq_of_mem_set hx with k | rfl
   ·exact hes x k
   ·exact .inr (Z0a (hes old (mG0 g1)) he1 (he he1))
  ·exact ⟨hes,rfl,rfl⟩
 ·exact ⟨hes,rfl,rfl⟩
end
end
end
end Go.Proofs.YtbdcblpjemmipaaGreat.Ex
