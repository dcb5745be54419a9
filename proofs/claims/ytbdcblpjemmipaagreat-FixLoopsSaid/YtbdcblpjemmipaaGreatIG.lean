/- A part of the proofs of what is known of threads: IG. -/
import Derived.Test.YtbdcblpjemmipaaGreatIF
namespace Go.Proofs.YtbdcblpjemmipaaGreat.Ex
open Go.Proofs
set_option maxRecDepth 100000
set_option maxHeartbeats 4000000
set_option linter.unusedVariables false
set_option linter.unusedSimpArgs false
set_option linter.unusedSectionVars false
noncomputable section
theorem ZM0 (most:Int) (U0:List Int) (U1:List Int) (U2:Int) (U3:List C):∀ (l:List C) (i:Nat) (s:Int),
  Zq (fun i s d=>YG most U0 U1 U2 U3 i s d) (fun s=>Zdx most U0 U1 U2 U3 s) i l s=some (.inl (U0,U1,U2,U3)) ∨
  Zq (fun i s d=>YG most U0 U1 U2 U3 i s d) (fun s=>Zdx most U0 U1 U2 U3 s) i l s=some (.inr (true,U0,U1,U2,U3))
 | [],i,s=>.inl rfl
 | d::r,i,s=>by
  simp only [Zq]
  have h:YG most U0 U1 U2 U3 i s d=bif decide (IntKind.i64.wrap (s+(d.2.length:Int))>most) then some (.inr (.inr (true,U0,U1,U2,U3))) else some (.inl (IntKind.i64.wrap (s+(d.2.length:Int)))):=rfl
  rw [h]
  cases decide (IntKind.i64.wrap (s+(d.2.length:Int))>most)
  ·exact ZM0 most U0 U1 U2 U3 r (i+1) _
  ·exact .inr rfl
theorem ZPs (u:U) (most:Int) (hs:sizeU u):∃ b,Zve u most=some b∧(b=false→unitOK u):=by
 unfold Zve ZtF
 by_cases h1:(u.2.2.2.length:Int)>4
 ·rw [dT0 h1];exact ⟨_,rfl,fun k=>nomatch k⟩
 by_cases h2:(u.1.length:Int)>10
 ·rw [dF0 h1,dT0 h2];exact ⟨_,rfl,fun k=>nomatch k⟩
 by_cases h3:(u.2.1.length:Int)>10
 ·rw [dF0 h1,dF0 h2,dT0 h3];exact ⟨_,rfl,fun k=>nomatch k⟩
 rw [dF0 h1,dF0 h2,dF0 h3]
 simp only [cond_false]
 have q:=ZBE most u.1 u.2.1 u.2.2.1 u.2.2.2 0 hs.2.2.1
 have q2:ZaU (most,0,0,u)=_:=q
 rw [q2]
 unfold ZiG
 rcases ZM0 most u.1 u.2.1 u.2.2.1 u.2.2.2 u.2.2.2 0 0 with h | h
 ·rw [h]
  simp only [Zc,Sum.elim_inl]
  obtain ⟨b,hb,hk⟩:=ZSZ u hs
  have hb2:ZtQ (u.1,u.2.1,u.2.2.1,u.2.2.2)=some b:=hb
  rw [hb2]
  refine ⟨!b,rfl,fun k=>hk (by simpa using k)⟩
 ·rw [h]
  exact ⟨true,rfl,fun k=>nomatch k⟩
def arrI (e:En):Int:=if e.2.1=true then 1 else 0
def cmpI (x y:Int) (r:Int):Int:=if x<y then -1 else if x>y then 1 else r
def ordI (a b:En):Int:=cmpI a.1 b.1 (cmpI (arrI a) (arrI b) (cmpI a.2.2.1 b.2.2.1 (cmpI a.2.2.2.1 b.2.2.2.1 0)))
theorem ZPt (e:En):Zvg e=some (arrI e):=by
 unfold Zvg arrI
 cases e.2.1<;>rfl
theorem ZUB (x0 x1 x2 x3 y0 y1 y2 y3:Int):Zb9 (0,[x0,x1,x2,x3],[y0,y1,y2,y3]) =
  some (if cmpI x0 y0 (cmpI x1 y1 (cmpI x2 y2 (cmpI x3 y3 0)))=0 then .inl () else .inr (cmpI x0 y0 (cmpI x1 y1 (cmpI x2 y2 (cmpI x3 y3 0))))):=by
 unfold Zb9
 refine Zms 5 Zr _ _ (by decide) ?_
 have go:∀ (n:Nat) (i:Nat) (x y:Int) (X Y:List Int),X[i]? = some x→Y[i]? = some y→i<4→Zn Km (n+1) ((i:Int),X,Y) =
   if x<y then some (.inr (-1)) else if x>y then some (.inr 1) else Zn Km n (((i+1:Nat):Int),X,Y):=by
  intro n i x y X Y hx hy hi
  rw [Zn]
  simp only [Km,Zlu]
  rw [show decide ((i:Int)<4)=true from dT0 (by omega),show decide (0≤(i:Int))=true from dT0 (by omega),tN0,hx,hy]
  rw [Zu hi (by omega)]
  simp only [cond_true,Zc]
  by_cases h1:x<y
  ·rw [dT0 h1,if_pos h1];rfl
  ·by_cases h2:x>y
   ·rw [dF0 h1,dT0 h2,if_neg h1,if_pos h2];rfl
   ·rw [dF0 h1,dF0 h2,if_neg h1,if_neg h2];rfl
 have e0:=go 4 0 x0 y0 [x0,x1,x2,x3] [y0,y1,y2,y3] rfl rfl (by decide)
 have e1:=go 3 1 x1 y1 [x0,x1,x2,x3] [y0,y1,y2,y3] rfl rfl (by decide)
 have e2:=go 2 2 x2 y2 [x0,x1,x2,x3] [y0,y1,y2,y3] rfl rfl (by decide)
 have e3:=go 1 3 x3 y3 [x0,x1,x2,x3] [y0,y1,y2,y3] rfl rfl (by decide)
 have e4:Zn Km 1 (((3+1:Nat):Int),[x0,x1,x2,x3],[y0,y1,y2,y3])=some (.inl ()):=by rfl
 refine e0.trans ?_
 rw [e1,e2,e3,e4]
 unfold cmpI
 by_cases a0:x0<y0
 ·simp [a0]
 by_cases b0:x0>y0
 ·simp [a0,b0]
 by_cases a1:x1<y1
 ·simp [a0,b0,a1]
 by_cases b1:x1>y1
 ·simp [a0,b0,a1,b1]
 by_cases a2:x2<y2
 ·simp [a0,b0,a1,b1,a2]
 by_cases b2:x2>y2
 ·simp [a0,b0,a1,b1,a2,b2]
 by_cases a3:x3<y3
 ·simp [a0,b0,a1,b1,a2,b2,a3]
 by_cases b3:x3>y3
 ·simp [a0,b0,a1,b1,a2,b2,a3,b3]
 simp [a0,b0,a1,b1,a2,b2,a3,b3]
theorem Zia (a b:En):Zp6 a b=some (ordI a b):=by
 unfold Zp6 Zky
 simp only [ZPt,Zc,ZUB]
 unfold ordI
 split
 ·rename_i h;rw [h];rfl
 ·rfl
structure entOK (e:En):Prop where
 v:isB e.2.2.2.2=true
 n:Zd e.2.2.2.2=false
 h:0≤e.2.2.2.1∧e.2.2.2.1<2147483648
structure tabOK (l:List En):Prop where
 e:∀ x∈l,entOK x
 s:∀ (i:Nat) (a b:En),l[i]? = some a→l[i+1]? = some b→ordI a b<0
def entB (e:En):Bool:=isB e.2.2.2.2 && !Zd e.2.2.2.2 && !decide (e.2.2.2.1<0) && !decide (e.2.2.2.1≥2147483648)
def ZrJ (l:List En) (i:Nat) (d:En):Bool:=entB d&&(bif decide (i>0) then (l[i - 1]?).elim false (fun p=>!decide (ordI p d≥0)) else true)
def ZwB (l:List En):Bool:=allIx (ZrJ l) 0 l
theorem ZRA (l:List En) (hl:l.length<9223372036854775807):ZyA l=some (ZwB l):=by
 unfold ZyA
 rw [ZDB l () hl]
 unfold ZjL
 rw [VG (p:=ZrJ l) (o:=.inr false) l 0 fun j d hd=>?_]
 ·unfold ZwB
  cases allIx (ZrJ l) 0 l<;>rfl
 ·have hj:j<l.length:=(List.getElem?_eq_some_iff.1 hd).1
  unfold ZeP Zg1 QW ZrJ entB
  simp only [ZKI,Zia,Zc,Nat.zero_add]
  cases isB d.2.2.2.2
  ·rfl
  by_cases h1:d.2.2.2.2.1>d.2.2.2.2.2
  ·rw [dT0 h1,show Zd d.2.2.2.2=true from ZjU h1];rfl
  rw [dF0 h1,show Zd d.2.2.2.2=false from Z6 (Int.not_lt.1 h1)]
  by_cases h2:d.2.2.2.1<0
  ·rw [dT0 h2];rfl
  by_cases h3:d.2.2.2.1≥2147483648
  ·rw [dF0 h2,dT0 h3];rfl
  rw [dF0 h2,dF0 h3]
  by_cases h4:j>0
  ·rw [show decide ((j:Int)>0)=true from dT0 (by omega),dT0 h4]
   have e5:IntKind.i64.wrap ((j:Int) - 1)=((j - 1:Nat):Int):=by rw [ZjP (by omega) (by omega)];omega
   rw [e5,show decide (0≤((j - 1:Nat):Int))=true from dT0 (by omega),tN0]
   obtain ⟨p,hp⟩:∃ p,l[j - 1]? = some p:=⟨l[j - 1]'(by omega),List.getElem?_eq_getElem _⟩
   rw [hp]
   simp only [cond_true,cond_false,Zc,Option.elim_some,Bool.not_true,Bool.not_false,Bool.true_and]
   cases decide (ordI p d≥0)<;>rfl
  ·rw [show decide ((j:Int)>0)=false from dF0 (by omega),dF0 h4];rfl
theorem ZKC {l:List En} (h:ZwB l=true):tabOK l:=by
 have k:=Zle.1 h
 have ent:∀ (j:Nat) (d:En),l[j]? = some d→entOK d:=fun j d hd=>by
  have:=k j d hd
  unfold ZrJ entB at this
  simp only [Bool.and_eq_true,Bool.not_eq_true',decide_eq_false_iff_not] at this
  exact ⟨this.1.1.1.1,this.1.1.1.2,by omega⟩
 refine ⟨fun x hx=>?_,fun i a b ha hb=>?_⟩
 ·obtain ⟨j,hj,rfl⟩:=List.mem_iff_getElem.1 hx
  exact ent j _ (List.getElem?_eq_getElem hj)
 ·have:=k (i+1) b hb
  unfold ZrJ at this
  rw [Nat.zero_add,show decide (i+1>0)=true from dT0 (by omega),Nat.add_sub_cancel,ha] at this
  simp only [cond_true,Option.elim_some,Bool.and_eq_true,Bool.not_eq_true',decide_eq_false_iff_not] at this
  omega
structure envOK (u:U) (t:Int) (e:E):Prop where
 c:∃ c,u.2.2.2[t.toNat]? = some c∧(e.2.1.length:Int)=c.1
 g:e.2.2.1.length=u.1.length
 a:e.2.2.2.1.length=u.2.1.length
 must:0≤e.2.2.2.2.1∧e.2.2.2.2.1<2147483648
 may:0≤e.2.2.2.2.2∧e.2.2.2.2.2<2147483648
 v:∀ x∈e.2.1++e.2.2.1++e.2.2.2.1,isB x=true∧Zd x=false
structure askedOK (u:U) (t:Int) (l:List En):Prop where
 hu:unitOK u
 ht:0≤t∧t<(u.2.2.2.length:Int)
 hn:l.length≤20
 hl:tabOK l
theorem Zp9 (u:U) (t:Int) (l:List En) (hs:sizeU u) (hl:l.length<9223372036854775807):∃ b,ZkR u t l=some b∧(b=true→askedOK u t l):=by
 unfold ZkR ZoA Zrc
 obtain ⟨b,hb,hk⟩:=ZPs u 45 hs
 simp only [hb,Zc,ZRA l hl]
 cases b
 case true=>exact ⟨_,rfl,fun k=>nomatch k⟩
 have hu:=hk rfl
 by_cases h1:t≥0
 case neg=>rw [dF0 h1];exact ⟨_,rfl,fun k=>nomatch k⟩
 by_cases h2:t<(u.2.2.2.length:Int)
 case neg=>rw [dT0 h1,dF0 h2];exact ⟨_,rfl,fun k=>nomatch k⟩
 by_cases h3:(l.length:Int)≤20
 ·rw [dT0 h1,dT0 h2,dT0 h3]
  exact ⟨ZwB l,rfl,fun k=>⟨hu,⟨h1,h2⟩,by omega,ZKC k⟩⟩
 ·rw [dT0 h1,dT0 h2,dF0 h3]
  exact ⟨_,rfl,fun k=>nomatch k⟩
def Zcg  (s6:(List Int)) (i:Nat) (s3:Int) (d:Int):Option (Int⊕Q2):=
 bif decide (d≥0) then
  bif decide (d<31) then
  bif decide (d<0) then
  none
 else some (.inl (IntKind.i64.wrap (↑(BitVec.ofInt IntKind.i64.bits s3 ||| BitVec.ofInt IntKind.i64.bits (IntKind.i64.wrap (1*2 ^ Min.min (Int.toNat d) IntKind.i64.bits))).toNat:Int)))
 else some (.inl (s3))
 else some (.inl (s3))
def Zhm  (s6:(List Int)) (s3:Int):Option Q2:=
 some s3
abbrev Zzm  (s6:(List Int)) (i:Nat) (s:Int):Ys:=(s,s6,(s6.length:Int),(i:Int))
def Zhx  (s6:(List Int)) (s:Int):Option Q2:=Zq (fun i s d=>Zcg  s6 i s d) (fun s=>Zhm  s6 s) 0 s6 s
theorem Zza  (s6:(List Int)) (s:Int) (hl:s6.length<9223372036854775807):WI (s,s6,(s6.length:Int),0)=Zhx  s6 s:=by
 unfold WI Zhx
 refine Zs s6 (Zzm  s6) _ _ ?_ ?_ s (by unfold Zr;omega)
 ·intro i s d hi hd
  have e1:decide ((i:Int)<(s6.length:Int))=true:=dT0 (by omega)
  have e2:decide (0≤(i:Int))=true:=dT0 (by omega)
  have e3:Int.toNat (i:Int)=i:=tN0 i
  have e4:=Zu hi (Nat.le_of_lt hl)
  show VJ (s) (s6) ((s6.length:Int)) ((i:Int))=upd _ (Zcg  s6 i s d)
  unfold VJ Zcg
  simp only [e1,e2,e3,e4,hd,cond_true,cond_false,Zc,ZD,ZG,ZE,ZK,ZL,ZF]
 ·intro s
  have e1:decide ((s6.length:Int)<(s6.length:Int))=false:=dF0 (by omega)
  show VJ (s) (s6) ((s6.length:Int)) ((s6.length:Int))=_
  unfold VJ Zhm
  rw [e1]
  rfl
abbrev YB:=(Int×(List Int)×Int)
abbrev Ji:=Int
def VX (s0:Int) (s1:List Int) (s5:Int):Option ((Int×(List Int)×Int)⊕Int):=bif decide (s5<(s1.length:Int)) then bif decide (0≤s5) then Za s1[s5.toNat]? none fun d5=>bif decide (d5≥0) then bif decide (0≤s5) then Za s1[s5.toNat]? none fun d6=>bif decide (d6≤30) then bif decide (0≤s5) then Za s1[s5.toNat]? none fun d7=>bif decide (IntKind.u64.wrap d7<0) then none else some (.inl (IntKind.i64.wrap (↑(BitVec.ofInt IntKind.i64.bits s0 ||| BitVec.ofInt IntKind.i64.bits (IntKind.i64.wrap (1*2 ^ Min.min (IntKind.u64.wrap d7).toNat IntKind.i64.bits))).toNat:Int),s1,IntKind.i64.wrap (s5+1))) else none else some (.inl (s0,s1,IntKind.i64.wrap (s5+1))) else none else some (.inl (s0,s1,IntKind.i64.wrap (s5+1))) else none else some (.inr s0)
def Zm5:YB→Option (YB⊕Ji):=fun (a,b,c)=>VX a b c
def WL (x:YB):Option Ji:=Zn Zm5 Zr x
def Zvm (a0:Int) (a1:List Int):Option Int:=Za (WL (a0,a1,0)) none fun d4=>some d4
def Zfh (x:(Int×((List Int)×Unit))):Option Int:=Zvm x.1 x.2.1
def Zcl  (s1:(List Int)) (i:Nat) (s0:Int) (d:Int):Option (Int⊕Ji):=
 bif decide (d≥0) then
  bif decide (d≤30) then
  bif decide (IntKind.u64.wrap d<0) then
  none
 else some (.inl (IntKind.i64.wrap (↑(BitVec.ofInt IntKind.i64.bits s0 ||| BitVec.ofInt IntKind.i64.bits (IntKind.i64.wrap (1*2 ^ Min.min (IntKind.u64.wrap d).toNat IntKind.i64.bits))).toNat:Int)))
 else some (.inl (s0))
 else some (.inl (s0))
def Zhr  (s1:(List Int)) (s0:Int):Option Ji:=
 some s0
abbrev Zzv  (s1:(List Int)) (i:Nat) (s:Int):YB:=(s,s1,(i:Int))
def ZhE  (s1:(List Int)) (s:Int):Option Ji:=Zq (fun i s d=>Zcl  s1 i s d) (fun s=>Zhr  s1 s) 0 s1 s
theorem Zzg  (s1:(List Int)) (s:Int) (hl:s1.length<9223372036854775807):WL (s,s1,0)=ZhE  s1 s:=by
 unfold WL ZhE
 refine Zs s1 (Zzv  s1) _ _ ?_ ?_ s (by unfold Zr;omega)
 ·intro i s d hi hd
  have e1:decide ((i:Int)<(s1.length:Int))=true:=dT0 (by omega)
  have e2:decide (0≤(i:Int))=true:=dT0 (by omega)
  have e3:Int.toNat (i:Int)=i:=tN0 i
  have e4:=Zu hi (Nat.le_of_lt hl)
  show VX (s) (s1) ((i:Int))=upd _ (Zcl  s1 i s d)
  unfold VX Zcl
  simp only [e1,e2,e3,e4,hd,cond_true,cond_false,Zc,ZD,ZG,ZE,ZK,ZL,ZF]
 ·intro s
  have e1:decide ((s1.length:Int)<(s1.length:Int))=false:=dF0 (by omega)
  show VX (s) (s1) ((s1.length:Int))=_
  unfold VX Zhr
  rw [e1]
  rfl
abbrev JY:=(Int×(List Int)×Int)
abbrev Ql:=Int
def Yc (s0:Int) (s1:List Int) (s5:Int):Option ((Int×(List Int)×Int)⊕Int):=bif decide (s5<(s1.length:Int)) then bif decide (0≤s5) then Za s1[s5.toNat]? none fun d5=>bif decide (d5≥0) then bif decide (0≤s5) then Za s1[s5.toNat]? none fun d6=>bif decide (d6≤30) then bif decide (0≤s5) then Za s1[s5.toNat]? none fun d7=>bif decide (IntKind.u64.wrap d7<0) then none else some (.inl (IntKind.i64.wrap (↑(BitVec.ofInt IntKind.i64.bits s0 &&& ~~~BitVec.ofInt IntKind.i64.bits (IntKind.i64.wrap (1*2 ^ Min.min (IntKind.u64.wrap d7).toNat IntKind.i64.bits))).toNat:Int),s1,IntKind.i64.wrap (s5+1))) else none else some (.inl (s0,s1,IntKind.i64.wrap (s5+1))) else none else some (.inl (s0,s1,IntKind.i64.wrap (s5+1))) else none else some (.inr s0)
def Zke:JY→Option (JY⊕Ql):=fun (a,b,c)=>Yc a b c
def YO (x:JY):Option Ql:=Zn Zke Zr x
def Zob (a0:Int) (a1:List Int):Option Int:=Za (YO (a0,a1,0)) none fun d4=>some d4
def Zam (x:(Int×((List Int)×Unit))):Option Int:=Zob x.1 x.2.1
def WF  (s1:(List Int)) (i:Nat) (s0:Int) (d:Int):Option (Int⊕Ql):=
 bif decide (d≥0) then
  bif decide (d≤30) then
  bif decide (IntKind.u64.wrap d<0) then
  none
 else some (.inl (IntKind.i64.wrap (↑(BitVec.ofInt IntKind.i64.bits s0 &&& ~~~BitVec.ofInt IntKind.i64.bits (IntKind.i64.wrap (1*2 ^ Min.min (IntKind.u64.wrap d).toNat IntKind.i64.bits))).toNat:Int)))
 else some (.inl (s0))
 else some (.inl (s0))
def Zd3  (s1:(List Int)) (s0:Int):Option Ql:=
 some s0
abbrev Ztx  (s1:(List Int)) (i:Nat) (s:Int):JY:=(s,s1,(i:Int))
def Zd6  (s1:(List Int)) (s:Int):Option Ql:=Zq (fun i s d=>WF  s1 i s d) (fun s=>Zd3  s1 s) 0 s1 s
theorem Ztu  (s1:(List Int)) (s:Int) (hl:s1.length<9223372036854775807):YO (s,s1,0)=Zd6  s1 s:=by
 unfold YO Zd6
 refine Zs s1 (Ztx  s1) _ _ ?_ ?_ s (by unfold Zr;omega)
 ·intro i s d hi hd
  have e1:decide ((i:Int)<(s1.length:Int))=true:=dT0 (by omega)
  have e2:decide (0≤(i:Int))=true:=dT0 (by omega)
  have e3:Int.toNat (i:Int)=i:=tN0 i
  have e4:=Zu hi (Nat.le_of_lt hl)
  show Yc (s) (s1) ((i:Int))=upd _ (WF  s1 i s d)
  unfold Yc WF
  simp only [e1,e2,e3,e4,hd,cond_true,cond_false,Zc,ZD,ZG,ZE,ZK,ZL,ZF]
 ·intro s
  have e1:decide ((s1.length:Int)<(s1.length:Int))=false:=dF0 (by omega)
  show Yc (s) (s1) ((s1.length:Int))=_
  unfold Yc Zd3
  rw [e1]
  rfl
def ZLm:List Sh:=[.dat (.int .i64),.dat (.sl (.int .i64))]
def ZOG:List Con:=[⟨200,ZkO,Zqe⟩]
def Zva (a0:Int) (a1:List Int):Option Int:=Za (ZcL (a1,())) none fun d3=>some (IntKind.i64.wrap (↑(BitVec.ofInt IntKind.i64.bits a0 ||| BitVec.ofInt IntKind.i64.bits d3).toNat:Int))
def KH (x:(Int×((List Int)×Unit))):Option Int:=Zva x.1 x.2.1
def ZAj:=conP true ZLm (.dat (.int .i64)) KH
theorem ZLU:Zg Tryz.prog 177 ZAj:=Ze (calU ZOG [] 40 1048576 8 177) true (by rfl) (by rfl) (fun x r e=>(Zk _ _ _ _ _ _ _).trans ((show _=KH x by kernel_rfl).trans e)) (.inl rfl)
def ZGe:List Sh:=[.dat (.int .i64),.dat (.sl (.int .i64))]
def ZIo:List Con:=[⟨200,ZkO,Zqe⟩]
def Zn7 (a0:Int) (a1:List Int):Option Int:=Za (ZcL (a1,())) none fun d3=>some (IntKind.i64.wrap (↑(BitVec.ofInt IntKind.i64.bits a0 &&& ~~~BitVec.ofInt IntKind.i64.bits d3).toNat:Int))
def Qx (x:(Int×((List Int)×Unit))):Option Int:=Zn7 x.1 x.2.1
def ZrQ:=conP true ZGe (.dat (.int .i64)) Qx
theorem ZG0:Zg Tryz.prog 178 ZrQ:=Ze (calU ZIo [] 40 1048576 8 178) true (by rfl) (by rfl) (fun x r e=>(Zk _ _ _ _ _ _ _).trans ((show _=Qx x by kernel_rfl).trans e)) (.inl rfl)
def YF (b0 b0_1:Int) (s7:List I) (i:Nat) (b1 b1_1:Int) (d:I):Option ((Int×Int)⊕JC):=
 bif decide (d.1>d.2) then
  some (.inl (b1,b1_1))
 else bif decide (b1>b1_1) then
  some (.inl (d.1,d.2))
 else some (.inl (if d.1<b1 then d.1 else b1,if d.2>b1_1 then d.2 else b1_1))
def Ziq (b0 b0_1:Int) (s7:List I) (b1 b1_1:Int):Option JC:=
 some (b0,b0_1,b1,b1_1)
abbrev ZBO (b0 b0_1:Int) (s7:List I) (i:Nat) (s:Int×Int):Hs:=(s7,(s7.length:Int),(i:Int),b0,b0_1,s.1,s.2)
def ZiF (b0 b0_1:Int) (s7:List I) (s:Int×Int):Option JC:=Zq (fun i s d=>YF b0 b0_1 s7 i s.1 s.2 d) (fun s=>Ziq b0 b0_1 s7 s.1 s.2) 0 s7 s
theorem ZBD (b0 b0_1:Int) (s7:List I) (s:Int×Int) (hl:s7.length<9223372036854775807):ZaT (s7,(s7.length:Int),0,b0,b0_1,s.1,s.2)=ZiF b0 b0_1 s7 s:=by
 unfold ZaT ZiF
 refine Zs s7 (ZBO b0 b0_1 s7) _ _ ?_ ?_ s (by unfold Zr;omega)
 ·intro i s d hi hd
  have e1:decide ((i:Int)<(s7.length:Int))=true:=dT0 (by omega)
  have e2:decide (0≤(i:Int))=true:=dT0 (by omega)
  have e3:Int.toNat (i:Int)=i:=tN0 i
  have e4:=Zu hi (Nat.le_of_lt hl)
  show W6 (s7) ((s7.length:Int)) ((i:Int)) (b0) (b0_1) (s.1) (s.2)=upd _ (YF b0 b0_1 s7 i s.1 s.2 d)
  unfold W6 YF
  simp only [e1,e2,e3,e4,hd,cond_true,cond_false,Zc,ZD,ZG,ZE,ZK,ZL,ZF]
 ·intro s
  have e1:decide ((s7.length:Int)<(s7.length:Int))=false:=dF0 (by omega)
  show W6 (s7) ((s7.length:Int)) ((s7.length:Int)) (b0) (b0_1) (s.1) (s.2)=_
  unfold W6 Ziq
  rw [e1]
  rfl
def ZMG:List Sh:=[.dat (.sl (.int .i64))]
def Zsj:Nat→List Nat:=fun c=>bif c.beq 0 then [5,6,7] else [2]
def ZF1:List Con:=[]
def Zf7:StS:=⟨[(5,.sl (.int .i64)),(6,.int .i64),(7,.int .i64)],[],0⟩
def Zah:StS:=⟨[(2,.undef)],[],0⟩
def Zai:StS:=⟨[(2,.bool)],[],0⟩
abbrev Wq:=((List Int)×Int×Int)
def ZCK:StD Zf7→Wq:=fun ((a,b,c,_),_)=>(a,b,c)
def ZD7:Wq→StD Zf7:=fun (a,b,c)=>((a,b,c,()),())
abbrev J2:=Unit
def Zx8 (d:StD Zah):J2:=()
def ZhW (x:J2):StD Zah:=(((),()),())
abbrev J3:=Bool
def Zx9 (d:StD Zai):J3:=(d.1.1)
def ZhX (x:J3):StD Zai:=((x,()),())
def Za7 (s5:List Int) (s6 s7:Int):Option (((List Int)×Int×Int)⊕(Unit⊕Bool)):=bif decide (s7<s6) then bif decide (0≤s7) then Za s5[s7.toNat]? none fun d5=>bif decide (d5 < -2147483648) then some (.inr (.inr false)) else bif decide (d5>2147483647) then some (.inr (.inr false)) else some (.inl (s5,s6,IntKind.i64.wrap (s7+1))) else none else some (.inr (.inl PUnit.unit))
def ZpM:Wq→Option (Wq⊕(J2⊕J3)):=fun (a,b,c)=>Za7 a b c
def ZbM (x:Wq):Option (J2⊕J3):=Zn ZpM Zr x
def Zt4:Nat→Tm→Prog (Nat×Tm):=(varP 0 (fun T h=>(rdS Zf7 T h).map ZCK) ZbM (fun y=>.alt y (altE 2 Zah ZhW) (altE 1 Zai ZhX)) (fun _ _=>.fail))
def ZGF:Lpc:=⟨69,0,18,(fun base T=>.norm base (Zsj 0) T (Zt4 base)),by kernel_rfl,by kernel_rfl,(loopU ZF1 [] 40 1048576 8 (keep:=Zsj) (q:=Zt4) (by kernel_rfl) (ZA (s:=Zf7) (un:=ZD7) (by rfl) (fun _=>rfl) (Qh (Zp (s:=Zah) (un:=ZhW) (flat:=Zx8) (by rfl) (fun _=>rfl)) (Zp (s:=Zai) (un:=ZhX) (flat:=Zx9) (by rfl) (fun _=>rfl))) (step:=ZpM) (fun _=>by kernel_rfl) (fun _ _ e=>⟨_,e⟩) (Qg (Zo 2 Zah ZhW) (Zo 1 Zai ZhX)) (ZI.fail _ _)))⟩
def Zyz (a0:List Int):Option Bool:=Za (ZbM (a0,(a0.length:Int),0)) none fun d3=>Sum.elim (fun e4=>some true) (fun e4=>some e4) d3
def Zex (x:(List Int)×Unit):Option Bool:=Zyz x.1
def ZrR:=conP true ZMG (.dat .bool) Zex
theorem ZDL:Zg Tryz.prog 69 ZrR:=Ze (calU ZF1 [ZGF] 40 1048576 8 69) true (by rfl) (by rfl) (fun x r e=>(Zk _ _ _ _ _ _ _).trans ((show _=Zex x by kernel_rfl).trans e)) (.inl rfl)
def ZRn:List Sh:=[.dat (.sl (.int .i64))]
def ZwD:Nat→List Nat:=fun c=>bif c.beq 0 then [2,3,7,8,9] else [2,3]
def ZK4:List Con:=[⟨110,Kz,YS⟩,⟨69,ZrR,ZDL⟩,⟨111,YQ,VH⟩]
def Zi8:StS:=⟨[(2,.ptr 0 0),(3,.ptr 1 0),(7,.sl (.int .i64)),(8,.int .i64),(9,.int .i64)],[(0,.box [.int .i64,.int .i64]),(1,.box [.int .i64,.int .i64])],2⟩
def Zb1:StS:=⟨[(2,.ptr 0 0),(3,.ptr 1 0)],[(0,.box [.int .i64,.int .i64]),(1,.box [.int .i64,.int .i64])],2⟩
abbrev Zbs:=((List Int)×Int×Int×Int×Int×Int×Int)
def ZGw:StD Zi8→Zbs:=fun ((_,_,a,b,c,_),((d,e,_),(f,g,_),_))=>(a,b,c,d,e,f,g)
def ZG7:Zbs→StD Zi8:=fun (a,b,c,d,e,f,g)=>(((),(),a,b,c,()),((d,e,()),(f,g,()),()))
abbrev Yh:=(Int×Int×Int×Int)
def ZCJ:StD Zb1→Yh:=fun ((_,_,_),((a,b,_),(c,d,_),_))=>(a,b,c,d)
def ZjO:Yh→StD Zb1:=fun (a,b,c,d)=>(((),(),()),((a,b,()),(c,d,()),()))
def Zdd (s7:List Int) (s8 s9 b0 b0_1 b1 b1_1:Int):Option (((List Int)×Int×Int×Int×Int×Int×Int)⊕(Int×Int×Int×Int)):=bif decide (s9<s8) then bif decide (0≤s9) then Za s7[s9.toNat]? none fun d9=>Za (Zex ([d9],())) none fun d10=>bif d10 then Za (ZM ([(b1,b1_1),(d9,d9)],())) none fun d11=>some (.inl (s7,s8,IntKind.i64.wrap (s9+1),b0,b0_1,d11.1,d11.2)) else some (.inl (s7,s8,IntKind.i64.wrap (s9+1),b0,b0_1,b1,b1_1)) else none else some (.inr (b0,b0_1,b1,b1_1))
def ZsY:Zbs→Option (Zbs⊕Yh):=fun (a,b,c,d,e,f,g)=>Zdd a b c d e f g
def ZeD (x:Zbs):Option Yh:=Zn ZsY Zr x
def ZAw:Nat→Tm→Prog (Nat×Tm):=(varP 0 (fun T h=>(rdS Zi8 T h).map ZGw) ZeD (altE 2 Zb1 ZjO) (fun _ _=>.fail))
def ZJo:Lpc:=⟨79,0,24,(fun base T=>.norm base (ZwD 0) T (ZAw base)),by kernel_rfl,by kernel_rfl,(loopU ZK4 [] 40 1048576 8 (keep:=ZwD) (q:=ZAw) (by kernel_rfl) (ZA (s:=Zi8) (un:=ZG7) (by rfl) (fun _=>rfl) (Zp (s:=Zb1) (un:=ZjO) (flat:=ZCJ) (by rfl) (fun _=>rfl)) (step:=ZsY) (fun _=>by kernel_rfl) (fun _ _ e=>⟨_,e⟩) (Zo 2 Zb1 ZjO) (ZI.fail _ _)))⟩
def ZGA (a0:List Int):Option I:=Za (ZeD (a0,(a0.length:Int),0,0,0,1,0)) none fun d3=>some (d3.2.2.1,d3.2.2.2)
def ZkZ (x:(List Int)×Unit):Option I:=ZGA x.1
def ZxW:=conP true ZRn (.dat tI) ZkZ
theorem ZIi:Zg Tryz.prog 79 ZxW:=Ze (calU ZK4 [ZJo] 40 1048576 8 79) true (by rfl) (by rfl) (fun x r e=>(Zk _ _ _ _ _ _ _).trans ((show _=ZkZ x by kernel_rfl).trans e)) (.inl rfl)
def Zhi (b0 b0_1:Int) (s7:List Int) (i:Nat) (b1 b1_1 d:Int):Option ((Int×Int)⊕Yh):=
 Za (Zex ([d],())) (none) fun d10=>
  bif d10 then
  Za (ZM ([(b1,b1_1),(d,d)],())) (none) fun d11=>
  some (.inl (d11.1,d11.2))
 else some (.inl (b1,b1_1))
def Zk2 (b0 b0_1:Int) (s7:List Int) (b1 b1_1:Int):Option Yh:=
 some (b0,b0_1,b1,b1_1)
abbrev ZGY (b0 b0_1:Int) (s7:List Int) (i:Nat) (s:Int×Int):Zbs:=(s7,(s7.length:Int),(i:Int),b0,b0_1,s.1,s.2)
def Zlb (b0 b0_1:Int) (s7:List Int) (s:Int×Int):Option Yh:=Zq (fun i s d=>Zhi b0 b0_1 s7 i s.1 s.2 d) (fun s=>Zk2 b0 b0_1 s7 s.1 s.2) 0 s7 s
theorem ZGW (b0 b0_1:Int) (s7:List Int) (s:Int×Int) (hl:s7.length<9223372036854775807):ZeD (s7,(s7.length:Int),0,b0,b0_1,s.1,s.2)=Zlb b0 b0_1 s7 s:=by
 unfold ZeD Zlb
 refine Zs s7 (ZGY b0 b0_1 s7) _ _ ?_ ?_ s (by unfold Zr;omega)
 ·intro i s d hi hd
  have e1:decide ((i:Int)<(s7.length:Int))=true:=dT0 (by omega)
  have e2:decide (0≤(i:Int))=true:=dT0 (by omega)
  have e3:Int.toNat (i:Int)=i:=tN0 i
  have e4:=Zu hi (Nat.le_of_lt hl)
  show Zdd (s7) ((s7.length:Int)) ((i:Int)) (b0) (b0_1) (s.1) (s.2)=upd _ (Zhi b0 b0_1 s7 i s.1 s.2 d)
  unfold Zdd Zhi
  simp only [e1,e2,e3,e4,hd,cond_true,cond_false,Zc,ZD,ZG,ZE,ZK,ZL,ZF]
 ·intro s
  have e1:decide ((s7.length:Int)<(s7.length:Int))=false:=dF0 (by omega)
  show Zdd (s7) ((s7.length:Int)) ((s7.length:Int)) (b0) (b0_1) (s.1) (s.2)=_
  unfold Zdd Zk2
  rw [e1]
  rfl
def ZeO  (s5:(List Int)) (i:Nat)  (d:Int):Option (Unit⊕(J2⊕J3)):=
 bif decide (d < -2147483648) then
  some (.inr (.inr false))
 else bif decide (d>2147483647) then
  some (.inr (.inr false))
 else some (.inl ())
def Zjn  (s5:(List Int)):Option (J2⊕J3):=
 some (.inl PUnit.unit)
abbrev ZDG  (s5:(List Int)) (i:Nat) (s:Unit):Wq:=(s5,(s5.length:Int),(i:Int))
def ZjK  (s5:(List Int)) (s:Unit):Option (J2⊕J3):=Zq (fun i s d=>ZeO  s5 i  d) (fun s=>Zjn  s5 ) 0 s5 s
theorem ZDA  (s5:(List Int)) (s:Unit) (hl:s5.length<9223372036854775807):ZbM (s5,(s5.length:Int),0)=ZjK  s5 s:=by
 unfold ZbM ZjK
 refine Zs s5 (ZDG  s5) _ _ ?_ ?_ s (by unfold Zr;omega)
 ·intro i s d hi hd
  have e1:decide ((i:Int)<(s5.length:Int))=true:=dT0 (by omega)
  have e2:decide (0≤(i:Int))=true:=dT0 (by omega)
  have e3:Int.toNat (i:Int)=i:=tN0 i
  have e4:=Zu hi (Nat.le_of_lt hl)
  show Za7 (s5) ((s5.length:Int)) ((i:Int))=upd _ (ZeO  s5 i  d)
  unfold Za7 ZeO
  simp only [e1,e2,e3,e4,hd,cond_true,cond_false,Zc,ZD,ZG,ZE,ZK,ZL,ZF]
 ·intro s
  have e1:decide ((s5.length:Int)<(s5.length:Int))=false:=dF0 (by omega)
  show Za7 (s5) ((s5.length:Int)) ((s5.length:Int))=_
  unfold Za7 Zjn
  rw [e1]
  rfl
def ZMF:List Sh:=[.dat tI,.dat tI]
def ZPL:List Con:=[⟨153,JR,KL⟩,⟨110,Kz,YS⟩]
def Zyy (a0 a1:I):Option I:=bif decide (a0.1>a0.2) then some (1,0) else bif decide (a1.1>a1.2) then some (1,0) else bif decide ((if a1.1>a0.1 then a1.1 else a0.1)>if a1.2<a0.2 then a1.2 else a0.2) then some (1,0) else some (if a1.1>a0.1 then a1.1 else a0.1,if a1.2<a0.2 then a1.2 else a0.2)
def ZC (x:I×(I×Unit)):Option I:=Zyy x.1 x.2.1
def Zji:=conP true ZMF (.dat tI) ZC
theorem ZmM:Zg Tryz.prog 174 Zji:=Ze (calU ZPL [] 40 1048576 8 174) true (by rfl) (by rfl) (fun x r e=>(Zk _ _ _ _ _ _ _).trans ((show _=ZC x by kernel_rfl).trans e)) (.inl rfl)
def ZFs:List Sh:=[]
def ZIp:List Con:=[]
def ZKy:Option I:=some (-2147483648,2147483647)
theorem ZPz:evGX (cxU ZIp [] 40 1048576) keeps 8 130 ZFs (.dat tI) (():Unit)=ZKy:=by kernel_rfl
def ZSc (x:Unit):Option I:=ZKy
def ZoF:=conP true ZFs (.dat tI) ZSc
theorem Zvx:Zg Tryz.prog 130 ZoF:=Ze (calU ZIp [] 40 1048576 8 130) true (by rfl) (by rfl) (fun x r e=>(Zk _ _ _ _ _ _ _).trans ((ZPz ).trans e)) (.inl rfl)
def ZO8:List Sh:=[.dat tI,.dat tI]
def ZR0:List Con:=[⟨153,JR,KL⟩]
def ZCR (a0 a1:I):Option Bool:=bif decide (a0.1>a0.2) then some true else bif decide (a0.1≥a1.1) then some (decide (a0.2≤a1.2)) else some false
def Qp (x:I×(I×Unit)):Option Bool:=ZCR x.1 x.2.1
def ZkA:=conP true ZO8 (.dat .bool) Qp
theorem ZoQ:Zg Tryz.prog 126 ZkA:=Ze (calU ZR0 [] 40 1048576 8 126) true (by rfl) (by rfl) (fun x r e=>(Zk _ _ _ _ _ _ _).trans ((show _=Qp x by kernel_rfl).trans e)) (.inl rfl)
def ZEz:List Sh:=[.dat tI,.dat tI]
def ZkG:Nat→List Nat:=fun c=>bif c.beq 0 then [2,3,4,6,7,15,16,17] else [4,6,7]
def ZsX:List Con:=[⟨110,Kz,YS⟩,⟨174,Zji,ZmM⟩,⟨153,JR,KL⟩,⟨130,ZoF,Zvx⟩,⟨111,YQ,VH⟩,⟨126,ZkA,ZoQ⟩]
def WG:StS:=⟨[(2,.ptr 0 0),(3,.ptr 1 0),(4,.ptr 2 0),(6,.ptr 3 0),(7,.bool),(15,.row 4),(16,.int .i64),(17,.int .i64)],[(0,.box [.int .i64,.int .i64]),(1,.box [.int .i64,.int .i64]),(2,.box [.int .i64,.int .i64]),(3,.box [.int .i64,.int .i64]),(4,.row tI)],5⟩
def Kc:StS:=⟨[(4,.ptr 0 0),(6,.ptr 1 0),(7,.bool)],[(0,.box [.int .i64,.int .i64]),(1,.box [.int .i64,.int .i64])],2⟩
abbrev Ju:=(Bool×Int×Int×Int×Int×Int×Int×Int×Int×Int×Int×(List I))
def ZrZ:StD WG→Ju:=fun ((_,_,_,_,a,_,b,c,_),((d,e,_),(f,g,_),(h,i,_),(j,k,_),l,_))=>(a,b,c,d,e,f,g,h,i,j,k,l)
def Zs7:Ju→StD WG:=fun (a,b,c,d,e,f,g,h,i,j,k,l)=>(((),(),(),(),a,(),b,c,()),((d,e,()),(f,g,()),(h,i,()),(j,k,()),l,()))
abbrev Qf:=(Bool×Int×Int×Int×Int)
def Zp0:StD Kc→Qf:=fun ((_,_,a,_),((b,c,_),(d,e,_),_))=>(a,b,c,d,e)
def ZbL:Qf→StD Kc:=fun (a,b,c,d,e)=>(((),(),a,()),((b,c,()),(d,e,()),()))
def KB (s7:Bool) (s16 s17 b0 b0_1 b1 b1_1 b2 b2_1 b3 b3_1:Int) (b4:List I):Option ((Bool×Int×Int×Int×Int×Int×Int×Int×Int×Int×Int×(List I))⊕(Bool×Int×Int×Int×Int)):=bif decide (s17<s16) then bif decide (0≤s17) then Za b4[s17.toNat]? none fun d14=>Za b4[s17.toNat]? none fun d15=>Za (ZC ((b1,b1_1),d15,())) none fun d16=>bif !decide (d16.1>d16.2) then bif decide (d16.1=0) then none else bif decide (d16.2=0) then none else bif decide (d16.1=0) then none else bif decide (d16.2=0) then none else Za (ZC ((if IntKind.i64.wrap (b0_1.tdiv d16.2)<if IntKind.i64.wrap (b0_1.tdiv d16.1)<if IntKind.i64.wrap (b0.tdiv d16.2)<IntKind.i64.wrap (b0.tdiv d16.1) then IntKind.i64.wrap (b0.tdiv d16.2) else IntKind.i64.wrap (b0.tdiv d16.1) then IntKind.i64.wrap (b0_1.tdiv d16.1) else if IntKind.i64.wrap (b0.tdiv d16.2)<IntKind.i64.wrap (b0.tdiv d16.1) then IntKind.i64.wrap (b0.tdiv d16.2) else IntKind.i64.wrap (b0.tdiv d16.1) then IntKind.i64.wrap (b0_1.tdiv d16.2) else if IntKind.i64.wrap (b0_1.tdiv d16.1)<if IntKind.i64.wrap (b0.tdiv d16.2)<IntKind.i64.wrap (b0.tdiv d16.1) then IntKind.i64.wrap (b0.tdiv d16.2) else IntKind.i64.wrap (b0.tdiv d16.1) then IntKind.i64.wrap (b0_1.tdiv d16.1) else if IntKind.i64.wrap (b0.tdiv d16.2)<IntKind.i64.wrap (b0.tdiv d16.1) then IntKind.i64.wrap (b0.tdiv d16.2) else IntKind.i64.wrap (b0.tdiv d16.1),if IntKind.i64.wrap (b0_1.tdiv d16.2)>if IntKind.i64.wrap (b0_1.tdiv d16.1)>if IntKind.i64.wrap (b0.tdiv d16.2)>IntKind.i64.wrap (b0.tdiv d16.1) then IntKind.i64.wrap (b0.tdiv d16.2) else IntKind.i64.wrap (b0.tdiv d16.1) then
 IntKind.i64.wrap (b0_1.tdiv d16.1) else if IntKind.i64.wrap (b0.tdiv d16.2)>IntKind.i64.wrap (b0.tdiv d16.1) then IntKind.i64.wrap (b0.tdiv d16.2) else IntKind.i64.wrap (b0.tdiv d16.1) then IntKind.i64.wrap (b0_1.tdiv d16.2) else if IntKind.i64.wrap (b0_1.tdiv d16.1)>if IntKind.i64.wrap (b0.tdiv d16.2)>IntKind.i64.wrap (b0.tdiv d16.1) then IntKind.i64.wrap (b0.tdiv d16.2) else IntKind.i64.wrap (b0.tdiv d16.1) then IntKind.i64.wrap (b0_1.tdiv d16.1) else if IntKind.i64.wrap (b0.tdiv d16.2)>IntKind.i64.wrap (b0.tdiv d16.1) then IntKind.i64.wrap (b0.tdiv d16.2) else IntKind.i64.wrap (b0.tdiv d16.1)),(-2147483648,2147483647),())) none fun d17=>Za (ZM ([(b3,b3_1),d17],())) none fun d18=>bif s7 then some (.inl (true,s16,IntKind.i64.wrap (s17+1),b0,b0_1,b1,b1_1,b2,b2_1,d18.1,d18.2,b4)) else Za (Qp ((if IntKind.i64.wrap (b0_1.tdiv d16.2)<if IntKind.i64.wrap (b0_1.tdiv d16.1)<if IntKind.i64.wrap (b0.tdiv d16.2)<IntKind.i64.wrap (b0.tdiv d16.1) then IntKind.i64.wrap (b0.tdiv d16.2) else IntKind.i64.wrap (b0.tdiv d16.1) then IntKind.i64.wrap (b0_1.tdiv d16.1) else if IntKind.i64.wrap (b0.tdiv d16.2)<IntKind.i64.wrap (b0.tdiv d16.1) then IntKind.i64.wrap (b0.tdiv d16.2) else IntKind.i64.wrap (b0.tdiv d16.1) then IntKind.i64.wrap (b0_1.tdiv d16.2) else if IntKind.i64.wrap (b0_1.tdiv d16.1)<if IntKind.i64.wrap (b0.tdiv d16.2)<IntKind.i64.wrap (b0.tdiv d16.1) then IntKind.i64.wrap (b0.tdiv d16.2) else IntKind.i64.wrap (b0.tdiv d16.1) then IntKind.i64.wrap (b0_1.tdiv d16.1) else if IntKind.i64.wrap (b0.tdiv d16.2)<IntKind.i64.wrap (b0.tdiv d16.1) then IntKind.i64.wrap (b0.tdiv d16.2)
 else IntKind.i64.wrap (b0.tdiv d16.1),if IntKind.i64.wrap (b0_1.tdiv d16.2)>if IntKind.i64.wrap (b0_1.tdiv d16.1)>if IntKind.i64.wrap (b0.tdiv d16.2)>IntKind.i64.wrap (b0.tdiv d16.1) then IntKind.i64.wrap (b0.tdiv d16.2) else IntKind.i64.wrap (b0.tdiv d16.1) then IntKind.i64.wrap (b0_1.tdiv d16.1) else if IntKind.i64.wrap (b0.tdiv d16.2)>IntKind.i64.wrap (b0.tdiv d16.1) then IntKind.i64.wrap (b0.tdiv d16.2) else IntKind.i64.wrap (b0.tdiv d16.1) then IntKind.i64.wrap (b0_1.tdiv d16.2) else if IntKind.i64.wrap (b0_1.tdiv d16.1)>if IntKind.i64.wrap (b0.tdiv d16.2)>IntKind.i64.wrap (b0.tdiv d16.1) then IntKind.i64.wrap (b0.tdiv d16.2) else IntKind.i64.wrap (b0.tdiv d16.1) then IntKind.i64.wrap (b0_1.tdiv d16.1) else if IntKind.i64.wrap (b0.tdiv d16.2)>IntKind.i64.wrap (b0.tdiv d16.1) then IntKind.i64.wrap (b0.tdiv d16.2) else IntKind.i64.wrap (b0.tdiv d16.1)),(-2147483648,2147483647),())) none fun d19=>some (.inl (!d19,s16,IntKind.i64.wrap (s17+1),b0,b0_1,b1,b1_1,b2,b2_1,d18.1,d18.2,b4)) else some (.inl (s7,s16,IntKind.i64.wrap (s17+1),b0,b0_1,b1,b1_1,b2,b2_1,b3,b3_1,b4)) else none else some (.inr (s7,b2,b2_1,b3,b3_1))
def ZjN:Ju→Option (Ju⊕Qf):=fun (a,b,c,d,e,f,g,h,i,j,k,l)=>KB a b c d e f g h i j k l
def K9 (x:Ju):Option Qf:=Zn ZjN Zr x
def Zln:Nat→Tm→Prog (Nat×Tm):=(varP 0 (fun T h=>(rdS WG T h).map ZrZ) K9 (altE 2 Kc ZbL) (fun _ _=>.fail))
def Zvp:Lpc:=⟨195,0,46,(fun base T=>.norm base (ZkG 0) T (Zln base)),by kernel_rfl,by kernel_rfl,(loopU ZsX [] 40 1048576 8 (keep:=ZkG) (q:=Zln) (by kernel_rfl) (ZA (s:=WG) (un:=Zs7) (by rfl) (fun _=>rfl) (Zp (s:=Kc) (un:=ZbL) (flat:=Zp0) (by rfl) (fun _=>rfl)) (step:=ZjN) (fun _=>by kernel_rfl) (fun _ _ e=>⟨_,e⟩) (Zo 2 Kc ZbL) (ZI.fail _ _)))⟩
def Zmn (a0 a1:I):Option (I×(Bool×Unit)):=Za (K9 (false,(↑[(1,2147483647),(-2147483648,-1)].length:Int),0,a0.1,a0.2,a1.1,a1.2,0,0,1,0,[(1,2147483647),(-2147483648,-1)])) none fun d4=>some ((d4.2.2.2.1,d4.2.2.2.2),d4.1,PUnit.unit)
def Zi3 (x:I×(I×Unit)):Option (I×(Bool×Unit)):=Zmn x.1 x.2.1
def Zqk:=conP true ZEz (.tup [.dat tI,.dat .bool]) Zi3
theorem ZFa:Zg Tryz.prog 195 Zqk:=Ze (calU ZsX [Zvp] 40 1048576 8 195) true (by rfl) (by rfl) (fun x r e=>(Zk _ _ _ _ _ _ _).trans ((show _=Zi3 x by kernel_rfl).trans e)) (.inl rfl)
def Jl (b0 b0_1 b1 b1_1 b2 b2_1:Int) (b4:List I) (i:Nat) (s7:Bool) (b3 b3_1:Int) (d:I):Option ((Bool×Int×Int)⊕Qf):=
 Za (ZC ((b1,b1_1),d,())) (none) fun d16=>
  bif !decide (d16.1>d16.2) then
  bif decide (d16.1=0) then
  none
 else bif decide (d16.2=0) then
  none
 else bif decide (d16.1=0) then
  none
 else bif decide (d16.2=0) then
  none
 else Za (ZC ((if IntKind.i64.wrap (b0_1.tdiv d16.2)<if IntKind.i64.wrap (b0_1.tdiv d16.1)<if IntKind.i64.wrap (b0.tdiv d16.2)<IntKind.i64.wrap (b0.tdiv d16.1) then IntKind.i64.wrap (b0.tdiv d16.2) else IntKind.i64.wrap (b0.tdiv d16.1) then IntKind.i64.wrap (b0_1.tdiv d16.1) else if IntKind.i64.wrap (b0.tdiv d16.2)<IntKind.i64.wrap (b0.tdiv d16.1) then IntKind.i64.wrap (b0.tdiv d16.2) else IntKind.i64.wrap (b0.tdiv d16.1) then IntKind.i64.wrap (b0_1.tdiv d16.2) else if IntKind.i64.wrap (b0_1.tdiv d16.1)<if IntKind.i64.wrap (b0.tdiv d16.2)<IntKind.i64.wrap (b0.tdiv d16.1) then IntKind.i64.wrap (b0.tdiv d16.2) else IntKind.i64.wrap (b0.tdiv d16.1) then IntKind.i64.wrap (b0_1.tdiv d16.1) else if IntKind.i64.wrap (b0.tdiv d16.2)<IntKind.i64.wrap (b0.tdiv d16.1) then IntKind.i64.wrap (b0.tdiv d16.2) else IntKind.i64.wrap (b0.tdiv d16.1),if IntKind.i64.wrap (b0_1.tdiv d16.2)>if IntKind.i64.wrap (b0_1.tdiv d16.1)>if IntKind.i64.wrap (b0.tdiv d16.2)>IntKind.i64.wrap (b0.tdiv d16.1) then IntKind.i64.wrap (b0.tdiv d16.2) else IntKind.i64.wrap (b0.tdiv d16.1) then IntKind.i64.wrap (b0_1.tdiv d16.1) else if IntKind.i64.wrap (b0.tdiv d16.2)>IntKind.i64.wrap (b0.tdiv d16.1) then IntKind.i64.wrap (b0.tdiv d16.2) else IntKind.i64.wrap (b0.tdiv d16.1) then IntKind.i64.wrap (b0_1.tdiv d16.2) else if IntKind.i64.wrap (b0_1.tdiv d16.1)>if IntKind.i64.wrap (b0.tdiv d16.2)>IntKind.i64.wrap (b0.tdiv d16.1) then IntKind.i64.wrap (b0.tdiv d16.2) else IntKind.i64.wrap (b0.tdiv d16.1) then IntKind.i64.wrap (b0_1.tdiv d16.1) else if IntKind.i64.wrap (b0.tdiv d16.2)>IntKind.i64.wrap (b0.tdiv d16.1) then IntKind.i64.wrap (b0.tdiv d16.2) else IntKind.i64.wrap (b0.tdiv d16.1)),(-2147483648,2147483647),())) (none) fun d17=>
  Za (ZM ([(b3,b3_1),d17],())) (none) fun d18=>
  bif s7 then
  some (.inl (true,d18.1,d18.2))
 else Za (Qp ((if IntKind.i64.wrap (b0_1.tdiv d16.2)<if IntKind.i64.wrap (b0_1.tdiv d16.1)<if IntKind.i64.wrap (b0.tdiv d16.2)<IntKind.i64.wrap (b0.tdiv d16.1) then IntKind.i64.wrap (b0.tdiv d16.2) else IntKind.i64.wrap (b0.tdiv d16.1) then IntKind.i64.wrap (b0_1.tdiv d16.1) else if IntKind.i64.wrap (b0.tdiv d16.2)<IntKind.i64.wrap (b0.tdiv d16.1) then IntKind.i64.wrap (b0.tdiv d16.2) else IntKind.i64.wrap (b0.tdiv d16.1) then IntKind.i64.wrap (b0_1.tdiv d16.2) else if IntKind.i64.wrap (b0_1.tdiv d16.1)<if IntKind.i64.wrap (b0.tdiv d16.2)<IntKind.i64.wrap (b0.tdiv d16.1) then IntKind.i64.wrap (b0.tdiv d16.2) else IntKind.i64.wrap (b0.tdiv d16.1) then IntKind.i64.wrap (b0_1.tdiv d16.1) else if IntKind.i64.wrap (b0.tdiv d16.2)<IntKind.i64.wrap (b0.tdiv d16.1) then IntKind.i64.wrap (b0.tdiv d16.2) else IntKind.i64.wrap (b0.tdiv d16.1),if IntKind.i64.wrap (b0_1.tdiv d16.2)>if IntKind.i64.wrap (b0_1.tdiv d16.1)>if IntKind.i64.wrap (b0.tdiv d16.2)>IntKind.i64.wrap (b0.tdiv d16.1) then IntKind.i64.wrap (b0.tdiv d16.2) else IntKind.i64.wrap (b0.tdiv d16.1) then IntKind.i64.wrap (b0_1.tdiv d16.1) else if IntKind.i64.wrap (b0.tdiv d16.2)>IntKind.i64.wrap (b0.tdiv d16.1) then IntKind.i64.wrap (b0.tdiv d16.2) else IntKind.i64.wrap (b0.tdiv d16.1) then IntKind.i64.wrap (b0_1.tdiv d16.2) else if IntKind.i64.wrap (b0_1.tdiv d16.1)>if IntKind.i64.wrap (b0.tdiv d16.2)>IntKind.i64.wrap (b0.tdiv d16.1) then IntKind.i64.wrap (b0.tdiv d16.2) else IntKind.i64.wrap (b0.tdiv d16.1) then IntKind.i64.wrap (b0_1.tdiv d16.1) else if IntKind.i64.wrap (b0.tdiv d16.2)>IntKind.i64.wrap (b0.tdiv d16.1) then IntKind.i64.wrap (b0.tdiv d16.2) else IntKind.i64.wrap (b0.tdiv d16.1)),(-2147483648,2147483647),())) (none) fun d19=>
  some (.inl (!d19,d18.1,d18.2))
 else some (.inl (s7,b3,b3_1))
def Zc9 (b0 b0_1 b1 b1_1 b2 b2_1:Int) (b4:List I) (s7:Bool) (b3 b3_1:Int):Option Qf:=
 some (s7,b2,b2_1,b3,b3_1)
abbrev ZsQ (b0 b0_1 b1 b1_1 b2 b2_1:Int) (b4:List I) (i:Nat) (s:Bool×Int×Int):Ju:=(s.1,(b4.length:Int),(i:Int),b0,b0_1,b1,b1_1,b2,b2_1,s.2.1,s.2.2,b4)
def Zdc (b0 b0_1 b1 b1_1 b2 b2_1:Int) (b4:List I) (s:Bool×Int×Int):Option Qf:=Zq (fun i s d=>Jl b0 b0_1 b1 b1_1 b2 b2_1 b4 i s.1 s.2.1 s.2.2 d) (fun s=>Zc9 b0 b0_1 b1 b1_1 b2 b2_1 b4 s.1 s.2.1 s.2.2) 0 b4 s
theorem ZsN (b0 b0_1 b1 b1_1 b2 b2_1:Int) (b4:List I) (s:Bool×Int×Int) (hl:b4.length<9223372036854775807):K9 (s.1,(b4.length:Int),0,b0,b0_1,b1,b1_1,b2,b2_1,s.2.1,s.2.2,b4)=Zdc b0 b0_1 b1 b1_1 b2 b2_1 b4 s:=by
 unfold K9 Zdc
 refine Zs b4 (ZsQ b0 b0_1 b1 b1_1 b2 b2_1 b4) _ _ ?_ ?_ s (by unfold Zr;omega)
 ·intro i s d hi hd
  have e1:decide ((i:Int)<(b4.length:Int))=true:=dT0 (by omega)
  have e2:decide (0≤(i:Int))=true:=dT0 (by omega)
  have e3:Int.toNat (i:Int)=i:=tN0 i
  have e4:=Zu hi (Nat.le_of_lt hl)
  show KB (s.1) ((b4.length:Int)) ((i:Int)) (b0) (b0_1) (b1) (b1_1) (b2) (b2_1) (s.2.1) (s.2.2) (b4)=upd _ (Jl b0 b0_1 b1 b1_1 b2 b2_1 b4 i s.1 s.2.1 s.2.2 d)
  unfold KB Jl
  simp only [e1,e2,e3,e4,hd,cond_true,cond_false,Zc,ZD,ZG,ZE,ZK,ZL,ZF]
 ·intro s
  have e1:decide ((b4.length:Int)<(b4.length:Int))=false:=dF0 (by omega)
  show KB (s.1) ((b4.length:Int)) ((b4.length:Int)) (b0) (b0_1) (b1) (b1_1) (b2) (b2_1) (s.2.1) (s.2.2) (b4)=_
  unfold KB Zc9
  rw [e1]
  rfl
def ZO7:List Sh:=[.dat tI,.dat (.int .i64)]
def ZRZ:List Con:=[]
def ZCQ (a0:I) (a1:Int):Option Bool:=bif decide (a1≥a0.1) then some (decide (a1≤a0.2)) else some false
def ZoR (x:I×(Int×Unit)):Option Bool:=ZCQ x.1 x.2.1
def ZFv:=conP true ZO7 (.dat .bool) ZoR
theorem ZPE:Zg Tryz.prog 196 ZFv:=Ze (calU ZRZ [] 40 1048576 8 196) true (by rfl) (by rfl) (fun x r e=>(Zk _ _ _ _ _ _ _).trans ((show _=ZoR x by kernel_rfl).trans e)) (.inl rfl)
def ZLq:List Sh:=[.dat tI,.dat tI]
def ZOI:List Con:=[⟨110,Kz,YS⟩]
def Zvd (a0 a1:I):Option I:=bif a1.1==0&&a1.2==0 then some (1,0) else bif decide (a0.1<0) then bif decide (a0.2>0) then some (if IntKind.i64.wrap (0 - IntKind.i64.wrap ((if IntKind.i64.wrap (0 - a1.1)>if a1.1>if IntKind.i64.wrap (0 - a1.2)>a1.2 then IntKind.i64.wrap (0 - a1.2) else a1.2 then a1.1 else if IntKind.i64.wrap (0 - a1.2)>a1.2 then IntKind.i64.wrap (0 - a1.2) else a1.2 then IntKind.i64.wrap (0 - a1.1) else if a1.1>if IntKind.i64.wrap (0 - a1.2)>a1.2 then IntKind.i64.wrap (0 - a1.2) else a1.2 then a1.1 else if IntKind.i64.wrap (0 - a1.2)>a1.2 then IntKind.i64.wrap (0 - a1.2) else a1.2) - 1))>a0.1 then IntKind.i64.wrap (0 - IntKind.i64.wrap ((if IntKind.i64.wrap (0 - a1.1)>if a1.1>if IntKind.i64.wrap (0 - a1.2)>a1.2 then IntKind.i64.wrap (0 - a1.2) else a1.2 then a1.1 else if IntKind.i64.wrap (0 - a1.2)>a1.2 then IntKind.i64.wrap (0 - a1.2) else a1.2 then IntKind.i64.wrap (0 - a1.1) else if a1.1>if IntKind.i64.wrap (0 - a1.2)>a1.2 then IntKind.i64.wrap (0 - a1.2) else a1.2 then a1.1 else if IntKind.i64.wrap (0 - a1.2)>a1.2 then IntKind.i64.wrap (0 - a1.2) else a1.2) - 1)) else a0.1,if IntKind.i64.wrap ((if IntKind.i64.wrap (0 - a1.1)>if a1.1>if IntKind.i64.wrap (0 - a1.2)>a1.2 then IntKind.i64.wrap (0 - a1.2) else a1.2 then a1.1 else if IntKind.i64.wrap (0 - a1.2)>a1.2 then IntKind.i64.wrap (0 - a1.2) else a1.2 then IntKind.i64.wrap (0 - a1.1) else if a1.1>if IntKind.i64.wrap (0 - a1.2)>a1.2 then IntKind.i64.wrap (0 - a1.2) else a1.2 then a1.1 else if IntKind.i64.wrap (0 - a1.2)>a1.2 then IntKind.i64.wrap (0 - a1.2) else a1.2) - 1)<a0.2 then IntKind.i64.wrap ((if
 IntKind.i64.wrap (0 - a1.1)>if a1.1>if IntKind.i64.wrap (0 - a1.2)>a1.2 then IntKind.i64.wrap (0 - a1.2) else a1.2 then a1.1 else if IntKind.i64.wrap (0 - a1.2)>a1.2 then IntKind.i64.wrap (0 - a1.2) else a1.2 then IntKind.i64.wrap (0 - a1.1) else if a1.1>if IntKind.i64.wrap (0 - a1.2)>a1.2 then IntKind.i64.wrap (0 - a1.2) else a1.2 then a1.1 else if IntKind.i64.wrap (0 - a1.2)>a1.2 then IntKind.i64.wrap (0 - a1.2) else a1.2) - 1) else a0.2) else some (if IntKind.i64.wrap (0 - IntKind.i64.wrap ((if IntKind.i64.wrap (0 - a1.1)>if a1.1>if IntKind.i64.wrap (0 - a1.2)>a1.2 then IntKind.i64.wrap (0 - a1.2) else a1.2 then a1.1 else if IntKind.i64.wrap (0 - a1.2)>a1.2 then IntKind.i64.wrap (0 - a1.2) else a1.2 then IntKind.i64.wrap (0 - a1.1) else if a1.1>if IntKind.i64.wrap (0 - a1.2)>a1.2 then IntKind.i64.wrap (0 - a1.2) else a1.2 then a1.1 else if IntKind.i64.wrap (0 - a1.2)>a1.2 then IntKind.i64.wrap (0 - a1.2) else a1.2) - 1))>a0.1 then IntKind.i64.wrap (0 - IntKind.i64.wrap ((if IntKind.i64.wrap (0 - a1.1)>if a1.1>if IntKind.i64.wrap (0 - a1.2)>a1.2 then IntKind.i64.wrap (0 - a1.2) else a1.2 then a1.1 else if IntKind.i64.wrap (0 - a1.2)>a1.2 then IntKind.i64.wrap (0 - a1.2) else a1.2 then IntKind.i64.wrap (0 - a1.1) else if a1.1>if IntKind.i64.wrap (0 - a1.2)>a1.2 then IntKind.i64.wrap (0 - a1.2) else a1.2 then a1.1 else if IntKind.i64.wrap (0 - a1.2)>a1.2 then IntKind.i64.wrap (0 - a1.2) else a1.2) - 1)) else a0.1,0) else bif decide (a0.2>0) then some (0,if IntKind.i64.wrap ((if IntKind.i64.wrap (0 - a1.1)>if a1.1>if IntKind.i64.wrap (0 - a1.2)>a1.2 then IntKind.i64.wrap (0 - a1.2) else a1.2 then a1.1
 else if IntKind.i64.wrap (0 - a1.2)>a1.2 then IntKind.i64.wrap (0 - a1.2) else a1.2 then IntKind.i64.wrap (0 - a1.1) else if a1.1>if IntKind.i64.wrap (0 - a1.2)>a1.2 then IntKind.i64.wrap (0 - a1.2) else a1.2 then a1.1 else if IntKind.i64.wrap (0 - a1.2)>a1.2 then IntKind.i64.wrap (0 - a1.2) else a1.2) - 1)<a0.2 then IntKind.i64.wrap ((if IntKind.i64.wrap (0 - a1.1)>if a1.1>if IntKind.i64.wrap (0 - a1.2)>a1.2 then IntKind.i64.wrap (0 - a1.2) else a1.2 then a1.1 else if IntKind.i64.wrap (0 - a1.2)>a1.2 then IntKind.i64.wrap (0 - a1.2) else a1.2 then IntKind.i64.wrap (0 - a1.1) else if a1.1>if IntKind.i64.wrap (0 - a1.2)>a1.2 then IntKind.i64.wrap (0 - a1.2) else a1.2 then a1.1 else if IntKind.i64.wrap (0 - a1.2)>a1.2 then IntKind.i64.wrap (0 - a1.2) else a1.2) - 1) else a0.2) else some (0,0)
def Zoz (x:I×(I×Unit)):Option I:=Zvd x.1 x.2.1
def ZAk:=conP true ZLq (.dat tI) Zoz
theorem ZLV:Zg Tryz.prog 197 ZAk:=Ze (calU ZOI [] 40 1048576 8 197) true (by rfl) (by rfl) (fun x r e=>(Zk _ _ _ _ _ _ _).trans ((show _=Zoz x by kernel_rfl).trans e)) (.inl rfl)
def ZRm:List Sh:=[.dat (.int .i64),.dat tI,.dat tI]
def ZTv:List Con:=[⟨153,JR,KL⟩,⟨110,Kz,YS⟩,⟨195,Zqk,ZFa⟩,⟨196,ZFv,ZPE⟩,⟨197,ZAk,ZLV⟩,⟨130,ZoF,Zvx⟩,⟨174,Zji,ZmM⟩,⟨126,ZkA,ZoQ⟩]
def ZGz (a0:Int) (a1 a2:I):Option (I×(Bool×(Bool×Unit))):=bif decide (a1.1>a1.2) then some ((1,0),false,false,PUnit.unit) else bif decide (a2.1>a2.2) then some ((1,0),false,false,PUnit.unit) else bif a0==1 then Za (ZC ((IntKind.i64.wrap (a1.1+a2.1),IntKind.i64.wrap (a1.2+a2.2)),(-2147483648,2147483647),())) none fun d4=>Za (Qp ((IntKind.i64.wrap (a1.1+a2.1),IntKind.i64.wrap (a1.2+a2.2)),(-2147483648,2147483647),())) none fun d5=>some ((d4.1,d4.2),!d5,false,PUnit.unit) else bif a0==2 then Za (ZC ((IntKind.i64.wrap (a1.1 - a2.2),IntKind.i64.wrap (a1.2 - a2.1)),(-2147483648,2147483647),())) none fun d4=>Za (Qp ((IntKind.i64.wrap (a1.1 - a2.2),IntKind.i64.wrap (a1.2 - a2.1)),(-2147483648,2147483647),())) none fun d5=>some ((d4.1,d4.2),!d5,false,PUnit.unit) else bif a0==3 then Za (ZC ((if IntKind.i64.wrap (a1.2*a2.2)<if IntKind.i64.wrap (a1.2*a2.1)<if IntKind.i64.wrap (a1.1*a2.2)<IntKind.i64.wrap (a1.1*a2.1) then IntKind.i64.wrap (a1.1*a2.2) else IntKind.i64.wrap (a1.1*a2.1) then IntKind.i64.wrap (a1.2*a2.1) else if IntKind.i64.wrap (a1.1*a2.2)<IntKind.i64.wrap (a1.1*a2.1) then IntKind.i64.wrap (a1.1*a2.2) else IntKind.i64.wrap (a1.1*a2.1) then IntKind.i64.wrap (a1.2*a2.2) else if IntKind.i64.wrap (a1.2*a2.1)<if IntKind.i64.wrap (a1.1*a2.2)<IntKind.i64.wrap (a1.1*a2.1) then IntKind.i64.wrap (a1.1*a2.2) else IntKind.i64.wrap (a1.1*a2.1) then IntKind.i64.wrap (a1.2*a2.1)
 else if IntKind.i64.wrap (a1.1*a2.2)<IntKind.i64.wrap (a1.1*a2.1) then IntKind.i64.wrap (a1.1*a2.2) else IntKind.i64.wrap (a1.1*a2.1),if IntKind.i64.wrap (a1.2*a2.2)>if IntKind.i64.wrap (a1.2*a2.1)>if IntKind.i64.wrap (a1.1*a2.2)>IntKind.i64.wrap (a1.1*a2.1) then IntKind.i64.wrap (a1.1*a2.2) else IntKind.i64.wrap (a1.1*a2.1) then IntKind.i64.wrap (a1.2*a2.1) else if IntKind.i64.wrap (a1.1*a2.2)>IntKind.i64.wrap (a1.1*a2.1) then IntKind.i64.wrap (a1.1*a2.2) else IntKind.i64.wrap (a1.1*a2.1) then IntKind.i64.wrap (a1.2*a2.2) else if IntKind.i64.wrap (a1.2*a2.1)>if IntKind.i64.wrap (a1.1*a2.2)>IntKind.i64.wrap (a1.1*a2.1) then IntKind.i64.wrap (a1.1*a2.2) else IntKind.i64.wrap (a1.1*a2.1) then IntKind.i64.wrap (a1.2*a2.1) else if IntKind.i64.wrap (a1.1*a2.2)>IntKind.i64.wrap (a1.1*a2.1) then IntKind.i64.wrap (a1.1*a2.2) else IntKind.i64.wrap (a1.1*a2.1)),(-2147483648,2147483647),())) none fun d4=>Za (Qp ((if IntKind.i64.wrap (a1.2*a2.2)<if IntKind.i64.wrap (a1.2*a2.1)<if IntKind.i64.wrap (a1.1*a2.2)<IntKind.i64.wrap (a1.1*a2.1) then IntKind.i64.wrap (a1.1*a2.2) else IntKind.i64.wrap (a1.1*a2.1) then IntKind.i64.wrap (a1.2*a2.1) else if IntKind.i64.wrap (a1.1*a2.2)<IntKind.i64.wrap (a1.1*a2.1) then IntKind.i64.wrap (a1.1*a2.2) else IntKind.i64.wrap (a1.1*a2.1) then IntKind.i64.wrap (a1.2*a2.2) else if IntKind.i64.wrap (a1.2*a2.1)<if IntKind.i64.wrap (a1.1*a2.2)<IntKind.i64.wrap (a1.1*a2.1) then IntKind.i64.wrap (a1.1*a2.2) else IntKind.i64.wrap (a1.1*a2.1) then IntKind.i64.wrap (a1.2*a2.1)
 else if IntKind.i64.wrap (a1.1*a2.2)<IntKind.i64.wrap (a1.1*a2.1) then IntKind.i64.wrap (a1.1*a2.2) else IntKind.i64.wrap (a1.1*a2.1),if IntKind.i64.wrap (a1.2*a2.2)>if IntKind.i64.wrap (a1.2*a2.1)>if IntKind.i64.wrap (a1.1*a2.2)>IntKind.i64.wrap (a1.1*a2.1) then IntKind.i64.wrap (a1.1*a2.2) else IntKind.i64.wrap (a1.1*a2.1) then IntKind.i64.wrap (a1.2*a2.1) else if IntKind.i64.wrap (a1.1*a2.2)>IntKind.i64.wrap (a1.1*a2.1) then IntKind.i64.wrap (a1.1*a2.2) else IntKind.i64.wrap (a1.1*a2.1) then IntKind.i64.wrap (a1.2*a2.2) else if IntKind.i64.wrap (a1.2*a2.1)>if IntKind.i64.wrap (a1.1*a2.2)>IntKind.i64.wrap (a1.1*a2.1) then IntKind.i64.wrap (a1.1*a2.2) else IntKind.i64.wrap (a1.1*a2.1) then IntKind.i64.wrap (a1.2*a2.1) else if IntKind.i64.wrap (a1.1*a2.2)>IntKind.i64.wrap (a1.1*a2.1) then IntKind.i64.wrap (a1.1*a2.2) else IntKind.i64.wrap (a1.1*a2.1)),(-2147483648,2147483647),())) none fun d5=>some ((d4.1,d4.2),!d5,false,PUnit.unit) else bif a0==4 then Za (Zi3 (a1,a2,())) none fun d4=>Za (ZoR (a2,0,())) none fun d5=>some ((d4.1.1,d4.1.2),d4.2.1,d5,PUnit.unit) else bif a0==5 then Za (Zoz (a1,a2,())) none fun d4=>Za (ZoR (a2,0,())) none fun d5=>some ((d4.1,d4.2),false,d5,PUnit.unit) else some ((1,0),!true,false,PUnit.unit)
def ZnP (x:(Int×(I×(I×Unit)))):Option (I×(Bool×(Bool×Unit))):=ZGz x.1 x.2.1 x.2.2.1
def ZHw:=conP true ZRm (.tup [.dat tI,.dat .bool,.dat .bool]) ZnP
theorem ZRV:Zg Tryz.prog 170 ZHw:=Ze (calU ZTv [] 40 1048576 8 170) true (by rfl) (by rfl) (fun x r e=>(Zk _ _ _ _ _ _ _).trans ((show _=ZnP x by kernel_rfl).trans e)) (.inl rfl)
def ZyD (a0 a1:I):Option I:=bif a1.1==0 then bif a1.2==0 then some (1,0) else bif decide (a0.1<0) then bif decide (a0.2>0) then some (if IntKind.i64.wrap (0 - IntKind.i64.wrap ((if IntKind.i64.wrap (0 - a1.2)>if a1.2>if IntKind.i64.wrap (0 - a1.1)>a1.1 then IntKind.i64.wrap (0 - a1.1) else a1.1 then a1.2 else if IntKind.i64.wrap (0 - a1.1)>a1.1 then IntKind.i64.wrap (0 - a1.1) else a1.1 then IntKind.i64.wrap (0 - a1.2) else if a1.2>if IntKind.i64.wrap (0 - a1.1)>a1.1 then IntKind.i64.wrap (0 - a1.1) else a1.1 then a1.2 else if IntKind.i64.wrap (0 - a1.1)>a1.1 then IntKind.i64.wrap (0 - a1.1) else a1.1) - 1))>a0.1 then IntKind.i64.wrap (0 - IntKind.i64.wrap ((if IntKind.i64.wrap (0 - a1.2)>if a1.2>if IntKind.i64.wrap (0 - a1.1)>a1.1 then IntKind.i64.wrap (0 - a1.1) else a1.1 then a1.2 else if IntKind.i64.wrap (0 - a1.1)>a1.1 then IntKind.i64.wrap (0 - a1.1) else a1.1 then IntKind.i64.wrap (0 - a1.2) else if a1.2>if IntKind.i64.wrap (0 - a1.1)>a1.1 then IntKind.i64.wrap (0 - a1.1) else a1.1 then a1.2 else if IntKind.i64.wrap (0 - a1.1)>a1.1 then IntKind.i64.wrap (0 - a1.1) else a1.1) - 1)) else a0.1,if IntKind.i64.wrap ((if IntKind.i64.wrap (0 - a1.2)>if a1.2>if IntKind.i64.wrap (0 - a1.1)>a1.1 then IntKind.i64.wrap (0 - a1.1) else a1.1 then a1.2 else if IntKind.i64.wrap (0 - a1.1)>a1.1 then IntKind.i64.wrap (0 - a1.1) else a1.1 then IntKind.i64.wrap (0 - a1.2) else if a1.2>if IntKind.i64.wrap (0 - a1.1)>a1.1 then IntKind.i64.wrap (0 - a1.1) else a1.1 then a1.2 else if IntKind.i64.wrap (0 - a1.1)>a1.1 then IntKind.i64.wrap (0 - a1.1) else a1.1) - 1)<a0.2 then IntKind.i64.wrap ((if
 IntKind.i64.wrap (0 - a1.2)>if a1.2>if IntKind.i64.wrap (0 - a1.1)>a1.1 then IntKind.i64.wrap (0 - a1.1) else a1.1 then a1.2 else if IntKind.i64.wrap (0 - a1.1)>a1.1 then IntKind.i64.wrap (0 - a1.1) else a1.1 then IntKind.i64.wrap (0 - a1.2) else if a1.2>if IntKind.i64.wrap (0 - a1.1)>a1.1 then IntKind.i64.wrap (0 - a1.1) else a1.1 then a1.2 else if IntKind.i64.wrap (0 - a1.1)>a1.1 then IntKind.i64.wrap (0 - a1.1) else a1.1) - 1) else a0.2) else some (if IntKind.i64.wrap (0 - IntKind.i64.wrap ((if IntKind.i64.wrap (0 - a1.2)>if a1.2>if IntKind.i64.wrap (0 - a1.1)>a1.1 then IntKind.i64.wrap (0 - a1.1) else a1.1 then a1.2 else if IntKind.i64.wrap (0 - a1.1)>a1.1 then IntKind.i64.wrap (0 - a1.1) else a1.1 then IntKind.i64.wrap (0 - a1.2) else if a1.2>if IntKind.i64.wrap (0 - a1.1)>a1.1 then IntKind.i64.wrap (0 - a1.1) else a1.1 then a1.2 else if IntKind.i64.wrap (0 - a1.1)>a1.1 then IntKind.i64.wrap (0 - a1.1) else a1.1) - 1))>a0.1 then IntKind.i64.wrap (0 - IntKind.i64.wrap ((if IntKind.i64.wrap (0 - a1.2)>if a1.2>if IntKind.i64.wrap (0 - a1.1)>a1.1 then IntKind.i64.wrap (0 - a1.1) else a1.1 then a1.2 else if IntKind.i64.wrap (0 - a1.1)>a1.1 then IntKind.i64.wrap (0 - a1.1) else a1.1 then IntKind.i64.wrap (0 - a1.2) else if a1.2>if IntKind.i64.wrap (0 - a1.1)>a1.1 then IntKind.i64.wrap (0 - a1.1) else a1.1 then a1.2 else if IntKind.i64.wrap (0 - a1.1)>a1.1 then IntKind.i64.wrap (0 - a1.1) else a1.1) - 1)) else a0.1,0) else bif decide (a0.2>0) then some (0,if IntKind.i64.wrap ((if IntKind.i64.wrap (0 - a1.2)>if a1.2>if IntKind.i64.wrap (0 - a1.1)>a1.1 then IntKind.i64.wrap (0 - a1.1) else a1.1 then a1.2
 else if IntKind.i64.wrap (0 - a1.1)>a1.1 then IntKind.i64.wrap (0 - a1.1) else a1.1 then IntKind.i64.wrap (0 - a1.2) else if a1.2>if IntKind.i64.wrap (0 - a1.1)>a1.1 then IntKind.i64.wrap (0 - a1.1) else a1.1 then a1.2 else if IntKind.i64.wrap (0 - a1.1)>a1.1 then IntKind.i64.wrap (0 - a1.1) else a1.1) - 1)<a0.2 then IntKind.i64.wrap ((if IntKind.i64.wrap (0 - a1.2)>if a1.2>if IntKind.i64.wrap (0 - a1.1)>a1.1 then IntKind.i64.wrap (0 - a1.1) else a1.1 then a1.2 else if IntKind.i64.wrap (0 - a1.1)>a1.1 then IntKind.i64.wrap (0 - a1.1) else a1.1 then IntKind.i64.wrap (0 - a1.2) else if a1.2>if IntKind.i64.wrap (0 - a1.1)>a1.1 then IntKind.i64.wrap (0 - a1.1) else a1.1 then a1.2 else if IntKind.i64.wrap (0 - a1.1)>a1.1 then IntKind.i64.wrap (0 - a1.1) else a1.1) - 1) else a0.2) else some (0,0) else bif decide (a0.1<0) then bif decide (a0.2>0) then some (if IntKind.i64.wrap (0 - IntKind.i64.wrap ((if IntKind.i64.wrap (0 - a1.2)>if a1.2>if IntKind.i64.wrap (0 - a1.1)>a1.1 then IntKind.i64.wrap (0 - a1.1) else a1.1 then a1.2 else if IntKind.i64.wrap (0 - a1.1)>a1.1 then IntKind.i64.wrap (0 - a1.1) else a1.1 then IntKind.i64.wrap (0 - a1.2) else if a1.2>if IntKind.i64.wrap (0 - a1.1)>a1.1 then IntKind.i64.wrap (0 - a1.1) else a1.1 then a1.2 else if IntKind.i64.wrap (0 - a1.1)>a1.1 then IntKind.i64.wrap (0 - a1.1) else a1.1) - 1))>a0.1 then IntKind.i64.wrap (0 - IntKind.i64.wrap ((if IntKind.i64.wrap (0 - a1.2)>if a1.2>if IntKind.i64.wrap (0 - a1.1)>a1.1 then IntKind.i64.wrap (0 - a1.1) else a1.1 then a1.2 else if IntKind.i64.wrap (0 - a1.1)>a1.1 then IntKind.i64.wrap (0 - a1.1) else a1.1 then
 IntKind.i64.wrap (0 - a1.2) else if a1.2>if IntKind.i64.wrap (0 - a1.1)>a1.1 then IntKind.i64.wrap (0 - a1.1) else a1.1 then a1.2 else if IntKind.i64.wrap (0 - a1.1)>a1.1 then IntKind.i64.wrap (0 - a1.1) else a1.1) - 1)) else a0.1,if IntKind.i64.wrap ((if IntKind.i64.wrap (0 - a1.2)>if a1.2>if IntKind.i64.wrap (0 - a1.1)>a1.1 then IntKind.i64.wrap (0 - a1.1) else a1.1 then a1.2 else if IntKind.i64.wrap (0 - a1.1)>a1.1 then IntKind.i64.wrap (0 - a1.1) else a1.1 then IntKind.i64.wrap (0 - a1.2) else if a1.2>if IntKind.i64.wrap (0 - a1.1)>a1.1 then IntKind.i64.wrap (0 - a1.1) else a1.1 then a1.2 else if IntKind.i64.wrap (0 - a1.1)>a1.1 then IntKind.i64.wrap (0 - a1.1) else a1.1) - 1)<a0.2 then IntKind.i64.wrap ((if IntKind.i64.wrap (0 - a1.2)>if a1.2>if IntKind.i64.wrap (0 - a1.1)>a1.1 then IntKind.i64.wrap (0 - a1.1) else a1.1 then a1.2 else if IntKind.i64.wrap (0 - a1.1)>a1.1 then IntKind.i64.wrap (0 - a1.1) else a1.1 then IntKind.i64.wrap (0 - a1.2) else if a1.2>if IntKind.i64.wrap (0 - a1.1)>a1.1 then IntKind.i64.wrap (0 - a1.1) else a1.1 then a1.2 else if IntKind.i64.wrap (0 - a1.1)>a1.1 then IntKind.i64.wrap (0 - a1.1) else a1.1) - 1) else a0.2) else some (if IntKind.i64.wrap (0 - IntKind.i64.wrap ((if IntKind.i64.wrap (0 - a1.2)>if a1.2>if IntKind.i64.wrap (0 - a1.1)>a1.1 then IntKind.i64.wrap (0 - a1.1) else a1.1 then a1.2 else if IntKind.i64.wrap (0 - a1.1)>a1.1 then IntKind.i64.wrap (0 - a1.1) else a1.1 then IntKind.i64.wrap (0 - a1.2) else if a1.2>if IntKind.i64.wrap (0 - a1.1)>a1.1 then IntKind.i64.wrap (0 - a1.1) else a1.1 then a1.2
 else if IntKind.i64.wrap (0 - a1.1)>a1.1 then IntKind.i64.wrap (0 - a1.1) else a1.1) - 1))>a0.1 then IntKind.i64.wrap (0 - IntKind.i64.wrap ((if IntKind.i64.wrap (0 - a1.2)>if a1.2>if IntKind.i64.wrap (0 - a1.1)>a1.1 then IntKind.i64.wrap (0 - a1.1) else a1.1 then a1.2 else if IntKind.i64.wrap (0 - a1.1)>a1.1 then IntKind.i64.wrap (0 - a1.1) else a1.1 then IntKind.i64.wrap (0 - a1.2) else if a1.2>if IntKind.i64.wrap (0 - a1.1)>a1.1 then IntKind.i64.wrap (0 - a1.1) else a1.1 then a1.2 else if IntKind.i64.wrap (0 - a1.1)>a1.1 then IntKind.i64.wrap (0 - a1.1) else a1.1) - 1)) else a0.1,0) else bif decide (a0.2>0) then some (0,if IntKind.i64.wrap ((if IntKind.i64.wrap (0 - a1.2)>if a1.2>if IntKind.i64.wrap (0 - a1.1)>a1.1 then IntKind.i64.wrap (0 - a1.1) else a1.1 then a1.2 else if IntKind.i64.wrap (0 - a1.1)>a1.1 then IntKind.i64.wrap (0 - a1.1) else a1.1 then IntKind.i64.wrap (0 - a1.2) else if a1.2>if IntKind.i64.wrap (0 - a1.1)>a1.1 then IntKind.i64.wrap (0 - a1.1) else a1.1 then a1.2 else if IntKind.i64.wrap (0 - a1.1)>a1.1 then IntKind.i64.wrap (0 - a1.1) else a1.1) - 1)<a0.2 then IntKind.i64.wrap ((if IntKind.i64.wrap (0 - a1.2)>if a1.2>if IntKind.i64.wrap (0 - a1.1)>a1.1 then IntKind.i64.wrap (0 - a1.1) else a1.1 then a1.2 else if IntKind.i64.wrap (0 - a1.1)>a1.1 then IntKind.i64.wrap (0 - a1.1) else a1.1 then IntKind.i64.wrap (0 - a1.2) else if a1.2>if IntKind.i64.wrap (0 - a1.1)>a1.1 then IntKind.i64.wrap (0 - a1.1) else a1.1 then a1.2 else if IntKind.i64.wrap (0 - a1.1)>a1.1 then IntKind.i64.wrap (0 - a1.1) else a1.1) - 1) else a0.2) else some (0,0)
def Zre (x:I×(I×Unit)):Option I:=ZyD x.1 x.2.1
def ZyB (a0:I) (a1:Int):Option Bool:=bif decide (a1≥a0.1) then some (decide (a1≤a0.2)) else some false
def ZlS (x:I×(Int×Unit)):Option Bool:=ZyB x.1 x.2.1
def ZHe:List Sh:=[.dat tI,.dat tI]
def ZJ3:List Con:=[]
def Zp2 (a0 a1:I):Option I:=bif a1.1 !=a1.2 then some (a0.1,a0.2) else bif a0.1==a1.1 then some (IntKind.i64.wrap (a0.1+1),a0.2) else bif a0.2==a1.1 then some (a0.1,IntKind.i64.wrap (a0.2 - 1)) else some (a0.1,a0.2)
def Zh1 (x:I×(I×Unit)):Option I:=Zp2 x.1 x.2.1
def ZtJ:=conP true ZHe (.dat tI) Zh1
theorem ZIj:Zg Tryz.prog 202 ZtJ:=Ze (calU ZJ3 [] 40 1048576 8 202) true (by rfl) (by rfl) (fun x r e=>(Zk _ _ _ _ _ _ _).trans ((show _=Zh1 x by kernel_rfl).trans e)) (.inl rfl)
def ZIP:List Sh:=[.dat (.int .i64),.dat tI,.dat tI]
def ZL5:List Con:=[⟨174,Zji,ZmM⟩,⟨202,ZtJ,ZIj⟩,⟨110,Kz,YS⟩,⟨153,JR,KL⟩]
def Zr8 (a0:Int) (a1 a2:I):Option (I×(I×Unit)):=bif a0==1 then bif decide (a1.1>a1.2) then some ((1,0),(1,0),PUnit.unit) else bif decide (a2.1>a2.2) then some ((1,0),(1,0),PUnit.unit) else bif decide (a1.1>if IntKind.i64.wrap (a2.2 - 1)<a1.2 then IntKind.i64.wrap (a2.2 - 1) else a1.2) then some ((1,0),(1,0),PUnit.unit) else bif decide ((if IntKind.i64.wrap (a1.1+1)>a2.1 then IntKind.i64.wrap (a1.1+1) else a2.1)>a2.2) then some ((1,0),(1,0),PUnit.unit) else some ((a1.1,if IntKind.i64.wrap (a2.2 - 1)<a1.2 then IntKind.i64.wrap (a2.2 - 1) else a1.2),(if IntKind.i64.wrap (a1.1+1)>a2.1 then IntKind.i64.wrap (a1.1+1) else a2.1,a2.2),PUnit.unit) else bif a0==2 then bif decide (a1.1>a1.2) then some ((1,0),(1,0),PUnit.unit) else bif decide (a2.1>a2.2) then some ((1,0),(1,0),PUnit.unit) else bif decide (a1.1>if a2.2<a1.2 then a2.2 else a1.2) then some ((1,0),(1,0),PUnit.unit) else bif decide ((if a1.1>a2.1 then a1.1 else a2.1)>a2.2) then some ((1,0),(1,0),PUnit.unit) else some ((a1.1,if a2.2<a1.2 then a2.2 else a1.2),(if a1.1>a2.1 then a1.1 else a2.1,a2.2),PUnit.unit) else bif a0==5 then bif decide (a1.1>a1.2) then some ((1,0),(1,0),PUnit.unit) else bif decide (a2.1>a2.2) then some ((1,0),(1,0),PUnit.unit) else bif decide ((if a2.1>a1.1 then a2.1 else a1.1)>a1.2) then some ((1,0),(1,0),PUnit.unit) else bif decide (a2.1>if a1.2<a2.2 then a1.2 else a2.2) then some ((1,0),(1,0),PUnit.unit) else some ((if a2.1>a1.1 then a2.1 else a1.1,a1.2),(a2.1,if a1.2<a2.2 then a1.2 else a2.2),PUnit.unit) else bif a0==6 then bif decide (a1.1>a1.2) then some ((1,0),(1,0),PUnit.unit) else
 bif decide (a2.1>a2.2) then some ((1,0),(1,0),PUnit.unit) else bif decide ((if IntKind.i64.wrap (a2.1+1)>a1.1 then IntKind.i64.wrap (a2.1+1) else a1.1)>a1.2) then some ((1,0),(1,0),PUnit.unit) else bif decide (a2.1>if IntKind.i64.wrap (a1.2 - 1)<a2.2 then IntKind.i64.wrap (a1.2 - 1) else a2.2) then some ((1,0),(1,0),PUnit.unit) else some ((if IntKind.i64.wrap (a2.1+1)>a1.1 then IntKind.i64.wrap (a2.1+1) else a1.1,a1.2),(a2.1,if IntKind.i64.wrap (a1.2 - 1)<a2.2 then IntKind.i64.wrap (a1.2 - 1) else a2.2),PUnit.unit) else bif a0==3 then Za (ZC (a1,a2,())) none fun d4=>bif decide (a1.1>a1.2) then some ((1,0),(1,0),PUnit.unit) else bif decide (a2.1>a2.2) then some ((1,0),(1,0),PUnit.unit) else bif decide (d4.1>d4.2) then some ((1,0),(1,0),PUnit.unit) else bif decide (d4.1>d4.2) then some ((1,0),(1,0),PUnit.unit) else some ((d4.1,d4.2),(d4.1,d4.2),PUnit.unit) else bif a0==4 then Za (Zh1 (a1,a2,())) none fun d4=>Za (Zh1 (a2,a1,())) none fun d5=>bif decide (a1.1>a1.2) then some ((1,0),(1,0),PUnit.unit) else bif decide (a2.1>a2.2) then some ((1,0),(1,0),PUnit.unit) else bif decide (d4.1>d4.2) then some ((1,0),(1,0),PUnit.unit) else bif decide (d5.1>d5.2) then some ((1,0),(1,0),PUnit.unit) else some ((d4.1,d4.2),(d5.1,d5.2),PUnit.unit) else some ((1,0),(1,0),PUnit.unit)
def ZW (x:(Int×(I×(I×Unit)))):Option (I×(I×Unit)):=Zr8 x.1 x.2.1 x.2.2.1
def ZvN:=conP true ZIP (.tup [.dat tI,.dat tI]) ZW
theorem ZJR:Zg Tryz.prog 179 ZvN:=Ze (calU ZL5 [] 40 1048576 8 179) true (by rfl) (by rfl) (fun x r e=>(Zk _ _ _ _ _ _ _).trans ((show _=ZW x by kernel_rfl).trans e)) (.inl rfl)
def Zvl (a0 a1:Int):Option I:=bif decide (a0>a1) then some (1,0) else some (a0,a1)
def Z2 (x:Int×(Int×Unit)):Option I:=Zvl x.1 x.2.1
def Zvk (a0 a1:Int):Option (I×(Bool×Unit)):=Za (Z2 (if -2147483648>a0 then -2147483648 else a0,if 2147483647<a1 then 2147483647 else a1,())) none fun d3=>bif decide (a0 < -2147483648) then some ((d3.1,d3.2),true,PUnit.unit) else some ((d3.1,d3.2),decide (a1>2147483647),PUnit.unit)
def YL (x:Int×(Int×Unit)):Option (I×(Bool×Unit)):=Zvk x.1 x.2.1
abbrev YP:=(Int×Int×Int×(List Int))
abbrev Vy:=(Int×Int)
def Zkb (s9 s10 s11:Int) (b0:List Int):Option ((Int×Int×Int×(List Int))⊕(Int×Int)):=bif decide (s11<4) then bif decide (0≤s11) then Za b0[s11.toNat]? none fun d6=>Za b0[s11.toNat]? none fun d7=>bif decide (0≤s11) then Za b0[s11.toNat]? none fun d8=>Za b0[s11.toNat]? none fun d9=>some (.inl (if d7<s9 then d7 else s9,if d9>s10 then d9 else s10,IntKind.i64.wrap (s11+1),b0)) else none else none else some (.inr (s9,s10))
def Yd:YP→Option (YP⊕Vy):=fun (a,b,c,d)=>Zkb a b c d
def YN (x:YP):Option Vy:=Zn Yd Zr x
def ZjX (a0 a1:I) (a2:Bool):Option (Int×(Int×Unit)):=bif a2 then bif decide (a1.1=0) then none else bif decide (a1.2=0) then none else bif decide (a1.1=0) then none else bif decide (a1.2=0) then none else Za (YN (IntKind.i64.wrap (Int.tdiv a0.1 a1.1),IntKind.i64.wrap (Int.tdiv a0.1 a1.1),1,[IntKind.i64.wrap (Int.tdiv a0.1 a1.1),IntKind.i64.wrap (Int.tdiv a0.1 a1.2),IntKind.i64.wrap (Int.tdiv a0.2 a1.1),IntKind.i64.wrap (Int.tdiv a0.2 a1.2)])) none fun d5=>some (d5.1,d5.2,PUnit.unit) else Za (YN (IntKind.i64.wrap (a0.1*a1.1),IntKind.i64.wrap (a0.1*a1.1),1,[IntKind.i64.wrap (a0.1*a1.1),IntKind.i64.wrap (a0.1*a1.2),IntKind.i64.wrap (a0.2*a1.1),IntKind.i64.wrap (a0.2*a1.2)])) none fun d5=>some (d5.1,d5.2,PUnit.unit)
def ZcS (x:(I×(I×(Bool×Unit)))):Option (Int×(Int×Unit)):=ZjX x.1 x.2.1 x.2.2.1
def Zvj (a0 a1:I):Option I:=Za (Z2 (if a1.1>a0.1 then a1.1 else a0.1,if a1.2<a0.2 then a1.2 else a0.2,())) none fun d3=>some (d3.1,d3.2)
def ZX (x:I×(I×Unit)):Option I:=Zvj x.1 x.2.1
def ZyC (a0 a1:I):Option (I×(Bool×Unit)):=Za (ZX (a1,(1,2147483647),())) none fun d3=>bif !decide (d3.1>d3.2) then Za (ZcS (a0,d3,true,())) none fun d4=>Za (YL (d4.1,d4.2.1,())) none fun d5=>Za (ZX (a1,(-2147483648,-1),())) none fun d6=>bif !decide (d6.1>d6.2) then Za (ZcS (a0,d6,true,())) none fun d7=>Za (YL (d7.1,d7.2.1,())) none fun d8=>Za (ZH (d5.1,d8.1,())) none fun d9=>bif d5.2.1 then some ((d9.1,d9.2),true,PUnit.unit) else some ((d9.1,d9.2),d8.2.1,PUnit.unit) else some ((d5.1.1,d5.1.2),d5.2.1,PUnit.unit) else Za (ZX (a1,(-2147483648,-1),())) none fun d4=>bif !decide (d4.1>d4.2) then Za (ZcS (a0,d4,true,())) none fun d5=>Za (YL (d5.1,d5.2.1,())) none fun d6=>some ((d6.1.1,d6.1.2),d6.2.1,PUnit.unit) else some ((1,0),false,PUnit.unit)
def Zrd (x:I×(I×Unit)):Option (I×(Bool×Unit)):=ZyC x.1 x.2.1
def ZCU (a0:Int) (a1 a2:I):Option (I×(Bool×(Bool×Unit))):=bif decide (a1.1>a1.2) then some ((1,0),false,false,PUnit.unit) else bif decide (a2.1>a2.2) then some ((1,0),false,false,PUnit.unit) else bif a0==1 then Za (YL (IntKind.i64.wrap (a1.1+a2.1),IntKind.i64.wrap (a1.2+a2.2),())) none fun d4=>some ((d4.1.1,d4.1.2),d4.2.1,false,PUnit.unit) else bif a0==2 then Za (YL (IntKind.i64.wrap (a1.1 - a2.2),IntKind.i64.wrap (a1.2 - a2.1),())) none fun d4=>some ((d4.1.1,d4.1.2),d4.2.1,false,PUnit.unit) else bif a0==3 then Za (YL (if IntKind.i64.wrap (a1.2*a2.2)<if IntKind.i64.wrap (a1.2*a2.1)<if IntKind.i64.wrap (a1.1*a2.2)<IntKind.i64.wrap (a1.1*a2.1) then IntKind.i64.wrap (a1.1*a2.2) else IntKind.i64.wrap (a1.1*a2.1) then IntKind.i64.wrap (a1.2*a2.1) else if IntKind.i64.wrap (a1.1*a2.2)<IntKind.i64.wrap (a1.1*a2.1) then IntKind.i64.wrap (a1.1*a2.2) else IntKind.i64.wrap (a1.1*a2.1) then IntKind.i64.wrap (a1.2*a2.2) else if IntKind.i64.wrap (a1.2*a2.1)<if IntKind.i64.wrap (a1.1*a2.2)<IntKind.i64.wrap (a1.1*a2.1) then IntKind.i64.wrap (a1.1*a2.2) else IntKind.i64.wrap (a1.1*a2.1) then IntKind.i64.wrap (a1.2*a2.1) else if IntKind.i64.wrap (a1.1*a2.2)<IntKind.i64.wrap (a1.1*a2.1) then IntKind.i64.wrap (a1.1*a2.2) else IntKind.i64.wrap (a1.1*a2.1),if IntKind.i64.wrap (a1.2*a2.2)>if IntKind.i64.wrap (a1.2*a2.1)>if IntKind.i64.wrap (a1.1*a2.2)>IntKind.i64.wrap (a1.1*a2.1) then IntKind.i64.wrap (a1.1*a2.2) else IntKind.i64.wrap (a1.1*a2.1) then IntKind.i64.wrap (a1.2*a2.1)
 else if IntKind.i64.wrap (a1.1*a2.2)>IntKind.i64.wrap (a1.1*a2.1) then IntKind.i64.wrap (a1.1*a2.2) else IntKind.i64.wrap (a1.1*a2.1) then IntKind.i64.wrap (a1.2*a2.2) else if IntKind.i64.wrap (a1.2*a2.1)>if IntKind.i64.wrap (a1.1*a2.2)>IntKind.i64.wrap (a1.1*a2.1) then IntKind.i64.wrap (a1.1*a2.2) else IntKind.i64.wrap (a1.1*a2.1) then IntKind.i64.wrap (a1.2*a2.1) else if IntKind.i64.wrap (a1.1*a2.2)>IntKind.i64.wrap (a1.1*a2.1) then IntKind.i64.wrap (a1.1*a2.2) else IntKind.i64.wrap (a1.1*a2.1),())) none fun d4=>some ((d4.1.1,d4.1.2),d4.2.1,false,PUnit.unit) else bif a0==4 then Za (Zrd (a1,a2,())) none fun d4=>Za (ZlS (a2,0,())) none fun d5=>some ((d4.1.1,d4.1.2),d4.2.1,d5,PUnit.unit) else bif a0==5 then Za (Zre (a1,a2,())) none fun d4=>Za (ZlS (a2,0,())) none fun d5=>some ((d4.1,d4.2),false,d5,PUnit.unit) else some ((1,0),false,false,PUnit.unit)
def ZtE (x:(Int×(I×(I×Unit)))):Option (I×(Bool×(Bool×Unit))):=ZCU x.1 x.2.1 x.2.2.1
def Zsf (a0 a1:I):Option I:=bif a1.1 !=a1.2 then some (a0.1,a0.2) else bif a1.1==a0.1 then bif a1.1==a0.2 then Za (Z2 (IntKind.i64.wrap (a0.1+1),IntKind.i64.wrap (a0.2 - 1),())) none fun d3=>some (d3.1,d3.2) else Za (Z2 (IntKind.i64.wrap (a0.1+1),a0.2,())) none fun d3=>some (d3.1,d3.2) else bif a1.1==a0.2 then Za (Z2 (a0.1,IntKind.i64.wrap (a0.2 - 1),())) none fun d3=>some (d3.1,d3.2) else Za (Z2 (a0.1,a0.2,())) none fun d3=>some (d3.1,d3.2)
def Zjd (x:I×(I×Unit)):Option I:=Zsf x.1 x.2.1
def Zp7 (a0:Int) (a1 a2:I):Option (I×(I×Unit)):=bif decide (a1.1>a1.2) then some ((1,0),(1,0),PUnit.unit) else bif decide (a2.1>a2.2) then some ((1,0),(1,0),PUnit.unit) else bif a0==1 then Za (Z2 (a1.1,if IntKind.i64.wrap (a2.2 - 1)<a1.2 then IntKind.i64.wrap (a2.2 - 1) else a1.2,())) none fun d4=>Za (Z2 (if IntKind.i64.wrap (a1.1+1)>a2.1 then IntKind.i64.wrap (a1.1+1) else a2.1,a2.2,())) none fun d5=>bif decide (d4.1>d4.2) then some ((1,0),(1,0),PUnit.unit) else bif decide (d5.1>d5.2) then some ((1,0),(1,0),PUnit.unit) else some ((d4.1,d4.2),(d5.1,d5.2),PUnit.unit) else bif a0==2 then Za (Z2 (a1.1,if a2.2<a1.2 then a2.2 else a1.2,())) none fun d4=>Za (Z2 (if a1.1>a2.1 then a1.1 else a2.1,a2.2,())) none fun d5=>bif decide (d4.1>d4.2) then some ((1,0),(1,0),PUnit.unit) else bif decide (d5.1>d5.2) then some ((1,0),(1,0),PUnit.unit) else some ((d4.1,d4.2),(d5.1,d5.2),PUnit.unit) else bif a0==6 then Za (Z2 (if IntKind.i64.wrap (a2.1+1)>a1.1 then IntKind.i64.wrap (a2.1+1) else a1.1,a1.2,())) none fun d4=>Za (Z2 (a2.1,if IntKind.i64.wrap (a1.2 - 1)<a2.2 then IntKind.i64.wrap (a1.2 - 1) else a2.2,())) none fun d5=>bif decide (d4.1>d4.2) then some ((1,0),(1,0),PUnit.unit) else bif decide (d5.1>d5.2) then some ((1,0),(1,0),PUnit.unit) else some ((d4.1,d4.2),(d5.1,d5.2),PUnit.unit) else bif a0==5 then Za (Z2 (if a2.1>a1.1 then a2.1 else a1.1,a1.2,())) none fun d4=>Za (Z2 (a2.1,if a1.2<a2.2 then a1.2 else a2.2,())) none fun d5=>bif decide (d4.1>d4.2) then some ((1,0),(1,0),PUnit.unit)
 else bif decide (d5.1>d5.2) then some ((1,0),(1,0),PUnit.unit) else some ((d4.1,d4.2),(d5.1,d5.2),PUnit.unit) else bif a0==3 then Za (ZX (a1,a2,())) none fun d4=>bif decide (d4.1>d4.2) then some ((1,0),(1,0),PUnit.unit) else bif decide (d4.1>d4.2) then some ((1,0),(1,0),PUnit.unit) else some ((d4.1,d4.2),(d4.1,d4.2),PUnit.unit) else bif a0==4 then Za (Zjd (a1,a2,())) none fun d4=>Za (Zjd (a2,a1,())) none fun d5=>bif decide (d4.1>d4.2) then some ((1,0),(1,0),PUnit.unit) else bif decide (d5.1>d5.2) then some ((1,0),(1,0),PUnit.unit) else some ((d4.1,d4.2),(d5.1,d5.2),PUnit.unit) else some ((1,0),(1,0),PUnit.unit)
def Zh2 (x:(Int×(I×(I×Unit)))):Option (I×(I×Unit)):=Zp7 x.1 x.2.1 x.2.2.1
def ZHJ (a0 a1:I):Option Bool:=bif decide (a0.1>a0.2) then some true else bif decide (a0.1≥a1.1) then some (decide (a0.2≤a1.2)) else some false
def Jx (x:I×(I×Unit)):Option Bool:=ZHJ x.1 x.2.1
theorem QB {σ α Y:Type} {f:Nat→σ→α→Option (σ⊕Y)} {fin:σ→Option Y} {i:Nat} {d:α} {r:List α} {s s':σ} (h:f i s d=some (.inl s')):Zq f fin i (d::r) s=Zq f fin (i+1) r s':=by
 rw [Zq,h]
theorem ZEc {α:Type} {p:Prop} [Decidable p] (h:p) (a b:α):(bif decide p then a else b)=a:=by rw [dT0 h];rfl
theorem Zg5 (x y:I):ZCR x y=some (leqB x y):=by
 unfold ZCR leqB Zd
 cases decide (x.1>x.2)
 ·cases decide (x.1≥y.1)<;>rfl
 ·rfl
theorem Zhu (x y:I):ZHJ x y=some (leqB x y):=Zg5 x y
theorem VF (x y:I):Zyy x y=some (iMeet x y):=by
 unfold Zyy iMeet Zd
 simp only [cond_eq_ite,Zda,Zdb,nn]
 (repeat' split)<;>simp_all
theorem ZoN (a b:Int):Zvl a b=some (iSpan a b):=by
 unfold Zvl iSpan
 simp only [cond_eq_ite,decide_eq_true_eq,nn]
 split<;>rfl
theorem ZcP (x y:I):Zvj x y=some (mSpan x y):=by
 unfold Zvj Z2 mSpan
 simp only [ZoN,Zc,Zda,Zdb]
theorem KK (x y:I):Zvi x y=some (rJoin x y):=by
 unfold Zvi rJoin Zd
 simp only [cond_eq_ite,Zda,Zdb]
 (repeat' split)<;>simp_all
theorem ZNH (b0 b01:Int) (L:List I):∀ (l:List I) (i:Nat) (a:I),Zq (fun i s d=>YF b0 b01 L i s.1 s.2 d) (fun s=>Ziq b0 b01 L s.1 s.2) i l a =
  some (b0,b01,(l.foldl (fun a d=>if Zd d then a else if Zd a then d else (mn a.1 d.1,mx a.2 d.2)) a).1,(l.foldl (fun a d=>if Zd d then a else if Zd a then d else (mn a.1 d.1,mx a.2 d.2)) a).2)
 | [],i,a=>rfl
 | d::r,i,a=>by
  have h:YF b0 b01 L i a.1 a.2 d=some (.inl (if Zd d then a else if Zd a then d else (mn a.1 d.1,mx a.2 d.2))):=by
   unfold YF Zd
   simp only [cond_eq_ite,Zda,Zdb]
   (repeat' split)<;>simp_all
  rw [Zq]
  simp only [h]
  exact ZNH b0 b01 L r (i+1) _
theorem ZRz (l:List I) (hl:l.length<9223372036854775807):Zrl l=some (l.foldl (fun a d=>if Zd d then a else if Zd a then d else (mn a.1 d.1,mx a.2 d.2)) nn):=by
 unfold Zrl
 have:=ZBD 0 0 l nn hl
 have e:ZaT (l,(l.length:Int),0,0,0,1,0)=_:=this
 rw [e]
 unfold ZiF
 rw [ZNH 0 0 l l 0 nn]
 rfl
theorem Vo (x y:I):Zrl [x,y]=some (Zl x y):=by
 rw [ZRz [x,y] (by simp)]
 simp only [List.foldl_cons,List.foldl_nil]
 have hn:Zd nn=true:=rfl
 unfold Zl
 cases hx:Zd x<;>cases hy:Zd y<;>simp [hn,hx,hy]
theorem ZFL (n:Int):Zyz [n]=some (fitB n):=by
 unfold Zyz
 have e:ZbM ([n],1,0)=_:=ZDA [n] () (by simp)
 have e2:(([n].length:Nat):Int)=1:=rfl
 rw [e2,e]
 unfold ZjK fitB
 simp only [Zq,ZeO,Zjn]
 by_cases h1:n < -2147483648
 ·rw [dT0 h1,dF0 (show ¬ n≥-2147483648 by omega)];rfl
 ·by_cases h2:n>2147483647
  ·rw [dF0 h1,dT0 h2,dT0 (show n≥-2147483648 by omega),dF0 (show ¬ n≤2147483647 by omega)];rfl
  ·rw [dF0 h1,dF0 h2,dT0 (show n≥-2147483648 by omega),dT0 (show n≤2147483647 by omega)];rfl
theorem ZSX (n:Int) (h:fitB n=true):ZGA [n]=some (n,n):=by
 unfold ZGA
 have e:ZeD ([n],(([n]:List Int).length:Int),0,0,0,1,0)=_:=ZGW 0 0 [n] nn (by simp)
 rw [e]
 unfold Zlb
 simp only [Zq,Zhi,Zk2,Zex,ZM,ZFL,h,Zc,cond_true,Vo]
 have:Zl (nn.1,nn.2) (n,n)=(n,n):=Zli (Int.le_refl n)
 rw [this]
theorem wr2 {a b:Int} (ha:a.natAbs≤2147483648) (hb:b.natAbs≤2147483648):IntKind.i64.wrap (a+b)=a+b∧IntKind.i64.wrap (a - b)=a - b∧IntKind.i64.wrap (a*b)=a*b∧IntKind.i64.wrap (a.tdiv b)=a.tdiv b:=
 ⟨wr (by omega),wr (by omega),wr (ZVW ha hb),wr (Nat.le_trans (ZVy ha) (by decide))⟩
theorem ZHY (x y:I) (hx:isB x=true) (hy:isB y=true):Zmn x y=some ((quoV x y).1,(quoV x y).2,()):=by
 obtain ⟨x1,x2⟩:=K4 hx
 obtain ⟨y1,y2⟩:=K4 hy
 unfold Zmn
 have e:K9 (false,(([(1,2147483647),(-2147483648,-1)]:List I).length:Int),0,x.1,x.2,y.1,y.2,0,0,1,0,[(1,2147483647),(-2147483648,-1)])=_:=ZsN x.1 x.2 y.1 y.2 0 0 [(1,2147483647),(-2147483648,-1)] (false,1,0) (by simp)
 rw [e]
 unfold Zdc
 have one:∀ (p:I) (i:Nat) (L:List I) (o:Bool) (v:I),(∀ n,p.1≤n→n≤p.2→n≠0)→p.1.natAbs≤2147483648→p.2.natAbs≤2147483648→Jl x.1 x.2 y.1 y.2 0 0 L i o v.1 v.2 p =
   some (.inl (if Zd (iMeet y p) then (o,v.1,v.2) else (o || !leqB (JO x (iMeet y p)) aa,(Zl v (iMeet (JO x (iMeet y p)) aa)).1,(Zl v (iMeet (JO x (iMeet y p)) aa)).2))):=by
  intro p i L o v hp p1 p2
  unfold Jl
  simp only [ZC,VF,Zc]
  have hm:(iMeet ((y.1,y.2):I) p)=iMeet y p:=rfl
  rw [hm]
  cases he:Zd (iMeet y p)
  ·have h0:=ZR he
   have hin:p.1≤(iMeet y p).1∧(iMeet y p).2≤p.2∧y.1≤(iMeet y p).1∧(iMeet y p).2≤y.2:=by
    unfold iMeet at he ⊢
    (repeat' split at he)<;>first | (simp_all [Zd,nn];done) | skip
    rename_i k1 k2 k3
    rw [if_neg k1,if_neg k2,if_neg k3]
    unfold mx mn
    refine ⟨?_,?_,?_,?_⟩<;>simp only<;>split<;>omega
   generalize iMeet y p=m at *
   have m1:m.1≠0:=hp _ (by omega) (by omega)
   have m2:m.2≠0:=hp _ (by omega) (by omega)
   have a1:m.1.natAbs≤2147483648:=by omega
   have a2:m.2.natAbs≤2147483648:=by omega
   have w1:=(wr2 x1 a1).2.2.2
   have w2:=(wr2 x1 a2).2.2.2
   have w3:=(wr2 x2 a1).2.2.2
   have w4:=(wr2 x2 a2).2.2.2
   have h1:¬ m.1>m.2:=by omega
   simp only [dF0 h1,dF0 m1,dF0 m2,Bool.not_false,cond_true,cond_false,w1,w2,w3,w4,Zda,Zdb,ZM,Qp,Vo,Zg5,Zc]
   rw [show ((-2147483648,2147483647):I)=aa from rfl,show (mn (mn (mn (x.1.tdiv m.1) (x.1.tdiv m.2)) (x.2.tdiv m.1)) (x.2.tdiv m.2),mx (mx (mx (x.1.tdiv m.1) (x.1.tdiv m.2)) (x.2.tdiv m.1)) (x.2.tdiv m.2))=JO x m from rfl]
   cases o<;>rfl
  ·have h1:(iMeet y p).1>(iMeet y p).2:=Zry.1 he
   rw [dT0 h1]
   rfl
 have o1:=one pP 0 [pP,pM] false nn (fun n h1 h2=>by unfold pP at h1;simp only at h1;omega) (by decide) (by decide)
 have o2:=fun o v=>one pM 1 [pP,pM] o v (fun n h1 h2=>by unfold pM at h2;simp only at h2;omega) (by decide) (by decide)
 have key:Zq (fun i s d=>Jl x.1 x.2 y.1 y.2 0 0 [(1,2147483647),(-2147483648,-1)] i s.1 s.2.1 s.2.2 d) (fun s=>Zc9 x.1 x.2 y.1 y.2 0 0 [(1,2147483647),(-2147483648,-1)] s.1 s.2.1 s.2.2) 0 [(1,2147483647),(-2147483648,-1)] (false,1,0)=some ((quoV x y).2,0,0,(quoV x y).1.1,(quoV x y).1.2):=by
  refine (QB o1).trans ?_
  unfold quoV ZmF
  cases hP:Zd (iMeet y pP)
  ·refine (QB (o2 (!leqB (JO x (iMeet y pP)) aa) (Zl nn (iMeet (JO x (iMeet y pP)) aa)))).trans ?_
   cases hM:Zd (iMeet y pM)<;>rfl
  ·refine (QB (o2 false nn)).trans ?_
   cases hM:Zd (iMeet y pM)<;>rfl
 rw [key]
 rfl
theorem ZQI {a b c d:Int} {n:Nat} (ha:a.natAbs≤n) (hb:b.natAbs≤n) (hc:c.natAbs≤n) (hd:d.natAbs≤n):(mx (mx (mx a b) c) d).natAbs≤n:=by
 unfold mx
 (repeat' split)<;>omega
theorem ZPr (x y:I) (hx:isB x=true) (hy:isB y=true):Zvd x y=some (remI x y):=by
 obtain ⟨x1,x2⟩:=K4 hx
 obtain ⟨y1,y2⟩:=K4 hy
 have w1:IntKind.i64.wrap (0 - y.1) = -y.1:=by rw [wr (by omega)];omega
 have w2:IntKind.i64.wrap (0 - y.2) = -y.2:=by rw [wr (by omega)];omega
 unfold Zvd remI
 simp only [w1,w2,Zdb,Zda]
 have hM:=ZQI (n:=2147483648) (a:=y.2) (b:=-y.2) (c:=y.1) (d:=-y.1) y2 (by omega) y1 (by omega)
 generalize mx (mx (mx y.2 (-y.2)) y.1) (-y.1)=M at *
 have w3:IntKind.i64.wrap (M - 1)=M - 1:=wr (by omega)
 have w4:IntKind.i64.wrap (0 - (M - 1)) = -(M - 1):=by rw [wr (by omega)];omega
 simp only [w3,w4,Zdb,Zda,cond_eq_ite,Bool.and_eq_true,beq_iff_eq,decide_eq_true_eq]
 by_cases h1:y.1=0∧y.2=0
 ·rw [if_pos h1,if_pos h1];rfl
 ·rw [if_neg h1,if_neg h1]
  by_cases h2:x.1<0<;>by_cases h3:x.2>0<;>simp [h2,h3]
theorem ZRD (x y:I) (hx:isB x=true) (hy:isB y=true):ZyD x y=some (remI x y):=by
 obtain ⟨x1,x2⟩:=K4 hx
 obtain ⟨y1,y2⟩:=K4 hy
 have w1:IntKind.i64.wrap (0 - y.1) = -y.1:=by rw [wr (by omega)];omega
 have w2:IntKind.i64.wrap (0 - y.2) = -y.2:=by rw [wr (by omega)];omega
 unfold ZyD remI
 simp only [w1,w2,Zdb,Zda]
 have hM:=ZQI (n:=2147483648) (a:=y.2) (b:=-y.2) (c:=y.1) (d:=-y.1) y2 (by omega) y1 (by omega)
 have hE:mx (mx (mx y.1 (-y.1)) y.2) (-y.2)=mx (mx (mx y.2 (-y.2)) y.1) (-y.1):=by unfold mx;(repeat' split)<;>omega
 rw [hE]
 generalize mx (mx (mx y.2 (-y.2)) y.1) (-y.1)=M at *
 have w3:IntKind.i64.wrap (M - 1)=M - 1:=wr (by omega)
 have w4:IntKind.i64.wrap (0 - (M - 1)) = -(M - 1):=by rw [wr (by omega)];omega
 simp only [w3,w4,Zdb,Zda,cond_eq_ite,Bool.and_eq_true,beq_iff_eq,decide_eq_true_eq]
 by_cases h0:y.1=0<;>by_cases h1:y.2=0<;>by_cases h2:x.1<0<;>by_cases h3:x.2>0<;>simp [h0,h1,h2,h3,nn]
theorem ZSW (x:I) (n:Int):ZCQ x n=some (hasB x n):=by
 unfold ZCQ hasB
 cases decide (n≥x.1)<;>rfl
theorem ZRB (x:I) (n:Int):ZyB x n=some (hasB x n):=by
 unfold ZyB hasB
 cases decide (n≥x.1)<;>rfl
theorem ZNU (op:Int) (x y:I) (hx:isB x=true) (hy:isB y=true):ZGz op x y=some ((doI op x y).1,(doI op x y).2.1,(doI op x y).2.2,()):=by
 obtain ⟨x1,x2⟩:=K4 hx
 obtain ⟨y1,y2⟩:=K4 hy
 have a11:=wr2 x1 y1
 have a12:=wr2 x1 y2
 have a21:=wr2 x2 y1
 have a22:=wr2 x2 y2
 unfold ZGz doI
 simp only [a11.1,a11.2.1,a11.2.2.1,a12.1,a12.2.1,a12.2.2.1,a21.1,a21.2.1,a21.2.2.1,a22.1,a22.2.1,a22.2.2.1,Zda,Zdb,ZC,Qp,Zi3,ZoR,Zoz,VF,Zg5,ZHY x y hx hy,ZPr x y hx hy,ZSW,Zc]
 rw [show ((-2147483648,2147483647):I)=aa from rfl]
 by_cases h1:x.1>x.2
 ·rw [dT0 h1,show Zd x=true from Zry.2 h1];rfl
 by_cases h2:y.1>y.2
 ·rw [dF0 h1,dT0 h2,show Zd x=false from by simp [Zd,h1],show Zd y=true from Zry.2 h2];rfl
 rw [dF0 h1,dF0 h2,show Zd x=false from by simp [Zd,h1],show Zd y=false from by simp [Zd,h2]]
 simp only [cond_false,Bool.or_self,Bool.false_eq_true,if_false]
 by_cases o1:op=1
 ·subst o1;rfl
 by_cases o2:op=2
 ·subst o2;rfl
 by_cases o3:op=3
 ·subst o3;rfl
 by_cases o4:op=4
 ·subst o4;rfl
 by_cases o5:op=5
 ·subst o5;rfl
 simp only [o1,o2,o3,o4,o5,if_false,beq_eq_false_iff_ne.2 o1,beq_eq_false_iff_ne.2 o2,beq_eq_false_iff_ne.2 o3,beq_eq_false_iff_ne.2 o4,beq_eq_false_iff_ne.2 o5,cond_false]
 rfl
theorem ZoM (a b:Int):Zvk a b=some (clipV a b,clipO a b,()):=by
 unfold Zvk Z2 clipV clipO
 simp only [ZoN,Zc,Zda,Zdb]
 cases decide (a < -2147483648)<;>rfl
theorem ZNa (v0 v1 v2 v3:Int):YN (v0,v0,1,[v0,v1,v2,v3])=some (mn (mn (mn v0 v1) v2) v3,mx (mx (mx v0 v1) v2) v3):=by
 unfold YN
 refine Zms 4 Zr _ _ (by decide) ?_
 have go:∀ (n:Nat) (i:Nat) (lo hi d:Int) (X:List Int),X[i]? = some d→i<4→Zn Yd (n+1) (lo,hi,(i:Int),X) =
   Zn Yd n (mn lo d,mx hi d,((i+1:Nat):Int),X):=by
  intro n i lo hi d X hx hi4
  rw [Zn]
  simp only [Yd,Zkb]
  rw [show decide ((i:Int)<4)=true from dT0 (by omega),show decide (0≤(i:Int))=true from dT0 (by omega),tN0,hx]
  rw [Zu hi4 (by omega)]
  rfl
 have e1:=go 3 1 v0 v0 v1 [v0,v1,v2,v3] rfl (by decide)
 have e2:=go 2 2 (mn v0 v1) (mx v0 v1) v2 [v0,v1,v2,v3] rfl (by decide)
 have e3:=go 1 3 (mn (mn v0 v1) v2) (mx (mx v0 v1) v2) v3 [v0,v1,v2,v3] rfl (by decide)
 exact e1.trans (e2.trans (e3.trans rfl))
theorem ZJv (x y:I) (x1:x.1.natAbs≤2147483648) (x2:x.2.natAbs≤2147483648) (y1:y.1.natAbs≤2147483648) (y2:y.2.natAbs≤2147483648) (hz:noZ y=true):ZjX x y true=some ((JO x y).1,(JO x y).2,()):=by
 simp only [noZ,Bool.and_eq_true,Bool.not_eq_true',beq_eq_false_iff_ne] at hz
 have a11:=wr2 x1 y1
 have a12:=wr2 x1 y2
 have a21:=wr2 x2 y1
 have a22:=wr2 x2 y2
 unfold ZjX
 simp only [a11.2.2.2,a12.2.2.2,a21.2.2.2,a22.2.2.2,cond_true,dF0 hz.1,dF0 hz.2,cond_false,ZNa,Zc]
 rfl
theorem ZRC (x y:I) (hx:isB x=true) (hy:isB y=true):ZyC x y=some ((rdivV x y).1,(rdivV x y).2,()):=by
 obtain ⟨x1,x2⟩:=K4 hx
 have cor:∀ p,isB p=true→Zd (mSpan y p)=false→noZ (mSpan y p)=true→ZjX x (mSpan y p) true=some ((JO x (mSpan y p)).1,(JO x (mSpan y p)).2,()):=fun p hp he hz=>by
  obtain ⟨q1,q2⟩:=K4 (ZjC hy hp he)
  exact ZJv x _ x1 x2 q1 q2 hz
 unfold ZyC rdivV ZIa
 simp only [ZX,ZcP,Zc,ZcS]
 rw [show ((1,2147483647):I)=pP from rfl,show ((-2147483648,-1):I)=pM from rfl]
 have hE:∀ z:I,decide (z.1>z.2)=Zd z:=fun _=>rfl
 simp only [hE]
 cases hP:Zd (mSpan y pP)
 ·simp only [Bool.not_false,cond_true,cor pP rfl hP (ZSR hP),Zc,YL,ZoM]
  cases hM:Zd (mSpan y pM)
  ·simp only [Bool.not_false,cond_true,cor pM rfl hM (ZKG hM),Zc,ZoM,ZH,KK,Bool.false_eq_true,if_false]
   cases clipO (JO x (mSpan y pP)).1 (JO x (mSpan y pP)).2<;>rfl
  ·rfl
 ·simp only [Bool.not_true,cond_false]
  cases hM:Zd (mSpan y pM)
  ·simp only [Bool.not_false,cond_true,cor pM rfl hM (ZKG hM),Zc,YL,ZoM,Bool.false_eq_true,if_false,if_true]
   have:rJoin nn (clipV (JO x (mSpan y pM)).1 (JO x (mSpan y pM)).2)=clipV (JO x (mSpan y pM)).1 (JO x (mSpan y pM)).2:=rfl
   rw [this]
   rfl
  ·rfl
theorem ZSY (op:Int) (x y:I) (hx:isB x=true) (hy:isB y=true):ZCU op x y=some ((doI op x y).1,(doI op x y).2.1,(doI op x y).2.2,()):=by
 rw [ZW5]
 obtain ⟨x1,x2⟩:=K4 hx
 obtain ⟨y1,y2⟩:=K4 hy
 have a11:=wr2 x1 y1
 have a12:=wr2 x1 y2
 have a21:=wr2 x2 y1
 have a22:=wr2 x2 y2
 unfold ZCU rdoI
 simp only [a11.1,a11.2.1,a11.2.2.1,a12.1,a12.2.1,a12.2.2.1,a21.1,a21.2.1,a21.2.2.1,a22.1,a22.2.1,a22.2.2.1,Zda,Zdb,YL,ZoM,Zrd,ZlS,Zre,ZRC x y hx hy,ZRD x y hx hy,ZRB,Zc]
 by_cases h1:x.1>x.2
 ·rw [dT0 h1,show Zd x=true from Zry.2 h1];rfl
 by_cases h2:y.1>y.2
 ·rw [dF0 h1,dT0 h2,show Zd x=false from by simp [Zd,h1],show Zd y=true from Zry.2 h2];rfl
 rw [dF0 h1,dF0 h2,show Zd x=false from by simp [Zd,h1],show Zd y=false from by simp [Zd,h2]]
 simp only [cond_false,Bool.or_self,Bool.false_eq_true,if_false]
 by_cases o1:op=1
 ·subst o1;rfl
 by_cases o2:op=2
 ·subst o2;rfl
 by_cases o3:op=3
 ·subst o3;rfl
 by_cases o4:op=4
 ·subst o4;rfl
 by_cases o5:op=5
 ·subst o5;rfl
 simp only [o1,o2,o3,o4,o5,if_false,beq_eq_false_iff_ne.2 o1,beq_eq_false_iff_ne.2 o2,beq_eq_false_iff_ne.2 o3,beq_eq_false_iff_ne.2 o4,beq_eq_false_iff_ne.2 o5,cond_false]
 rfl
def bitV (m:Int):Int:=if 0≤m∧m<31 then ((2 ^ m.toNat:Nat):Int) else 0
theorem ZV1 (m:Int) (h:0≤m∧m<31):IntKind.i64.wrap (1*2 ^ Min.min (Int.toNat m) IntKind.i64.bits)=((2 ^ m.toNat:Nat):Int):=by
 obtain ⟨n,rfl⟩:∃ n:Nat,m=n:=⟨m.toNat,by omega⟩
 have hn:n<31:=by omega
 have:((List.range 31).all fun n=>IntKind.i64.wrap (1*2 ^ Min.min (Int.toNat (n:Int)) IntKind.i64.bits)==((2 ^ (n:Int).toNat:Nat):Int))=true:=by kernel_rfl
 exact beq_iff_eq.1 (List.all_eq_true.1 this n (List.mem_range.2 hn))
theorem ZKL (m:Int) (h:0≤m∧m<31):IntKind.i64.wrap (1*2 ^ Min.min (IntKind.u64.wrap m).toNat IntKind.i64.bits)=((2 ^ m.toNat:Nat):Int):=by
 obtain ⟨n,rfl⟩:∃ n:Nat,m=n:=⟨m.toNat,by omega⟩
 have hn:n<31:=by omega
 have:((List.range 31).all fun n=>IntKind.i64.wrap (1*2 ^ Min.min (IntKind.u64.wrap (n:Int)).toNat IntKind.i64.bits)==((2 ^ (n:Int).toNat:Nat):Int))=true:=by kernel_rfl
 exact beq_iff_eq.1 (List.all_eq_true.1 this n (List.mem_range.2 hn))
theorem Zg6 (n:Nat) (h:n<18446744073709551616):(BitVec.ofInt IntKind.i64.bits (n:Int)).toNat=n:=by
 show (BitVec.ofInt 64 (n:Int)).toNat=n
 rw [BitVec.toNat_ofInt];omega
theorem ZG8 (n:Nat) (h:n<9223372036854775808):IntKind.i64.wrap (n:Int)=(n:Int):=ZjP (by omega) (by omega)
theorem ZxQ {a b:Nat} (ha:a<9223372036854775808) (hb:b<9223372036854775808):IntKind.i64.wrap ((BitVec.ofInt IntKind.i64.bits (a:Int) &&& BitVec.ofInt IntKind.i64.bits (b:Int)).toNat:Int)=((a &&& b:Nat):Int):=by
 rw [BitVec.toNat_and,Zg6 a (by omega),Zg6 b (by omega)]
 exact ZG8 _ (Nat.lt_of_le_of_lt Nat.and_le_left ha)
theorem ZN4 {a b:Nat} (ha:a<4611686018427387904) (hb:b<4611686018427387904):IntKind.i64.wrap ((BitVec.ofInt IntKind.i64.bits (a:Int) ||| BitVec.ofInt IntKind.i64.bits (b:Int)).toNat:Int)=((a ||| b:Nat):Int):=by
 rw [BitVec.toNat_or,Zg6 a (by omega),Zg6 b (by omega)]
 refine ZG8 _ (Nat.lt_of_lt_of_le (Nat.or_lt_two_pow (n:=62) ha hb) (by decide))
def tb (s m:Int):Bool:=decide (0≤m)&&decide (m<31)&&s.toNat.testBit m.toNat
theorem ZVr (n k:Nat):(n &&& 2 ^ k !=0)=n.testBit k:=by
 cases h:n.testBit k
 ·have:n &&& 2 ^ k=0:=Nat.eq_of_testBit_eq fun i=>by
   rw [Nat.testBit_and,Nat.testBit_two_pow,Nat.zero_testBit]
   by_cases e:k=i
   ·subst e;rw [h];rfl
   ·simp [e]
  rw [this];rfl
 ·rw [bne_iff_ne]
  intro e
  have:(n &&& 2 ^ k).testBit k=true:=by rw [Nat.testBit_and,h,Nat.testBit_two_pow_self];rfl
  rw [e,Nat.zero_testBit] at this
  cases this
theorem ZGl (m:Int):Zvb [m]=some (bitV m):=by
 unfold Zvb
 have e:WI (0,[m],(([m]:List Int).length:Int),0)=_:=Zza [m] 0 (by simp)
 rw [e]
 unfold Zhx bitV
 simp only [Zq,Zcg,Zhm]
 by_cases h1:m≥0
 ·by_cases h2:m<31
  ·rw [dT0 h1,dT0 h2,dF0 (show ¬ m<0 by omega),ZV1 m ⟨h1,h2⟩,if_pos ⟨h1,h2⟩]
   simp only [cond_true,cond_false]
   have:=ZN4 (a:=0) (b:=2 ^ m.toNat) (by decide) (Nat.lt_of_lt_of_le (Nat.pow_lt_pow_right (by decide) (show m.toNat<31 by omega)) (by decide))
   rw [show ((0:Nat):Int)=0 from rfl] at this
   rw [this,Nat.zero_or]
   rfl
  ·rw [dT0 h1,dF0 h2,if_neg (by omega)];rfl
 ·rw [dF0 h1,if_neg (by omega)];rfl
theorem ZxU (m:Int):∃ k:Nat,bitV m=k∧k<2147483648∧∀ n:Nat,(n &&& k !=0)=(decide (0≤m)&&decide (m<31)&&n.testBit m.toNat):=by
 unfold bitV
 by_cases h:0≤m∧m<31
 ·rw [if_pos h]
  refine ⟨2 ^ m.toNat,rfl,Nat.lt_of_lt_of_le (Nat.pow_lt_pow_right (by decide) (show m.toNat<31 by omega)) (by decide),fun n=>?_⟩
  rw [dT0 h.1,dT0 h.2,ZVr];rfl
 ·rw [if_neg h]
  refine ⟨0,rfl,by decide,fun n=>?_⟩
  rw [Nat.and_zero]
  by_cases h1:0≤m
  ·rw [dT0 h1,dF0 (show ¬ m<31 by omega)];rfl
  ·rw [dF0 h1];rfl
theorem ZaI (s m:Int) (hs:0≤s∧s<9223372036854775808):Zyx s m=some (tb s m):=by
 obtain ⟨n,rfl⟩:∃ n:Nat,s=n:=⟨s.toNat,by omega⟩
 obtain ⟨k,h1,h2,h3⟩:=ZxU m
 unfold Zyx ZcL tb
 simp only [ZGl,Zc,h1]
 rw [ZxQ (by omega) (by omega),tN0,← h3 n]
 congr 1
 rw [Bool.eq_iff_iff]
 simp only [bne_iff_ne]
 omega
theorem ZmA (s m:Int) (hs:0≤s∧s<2147483648):ZyE s m=some (tb s m):=by
 obtain ⟨n,rfl⟩:∃ n:Nat,s=n:=⟨s.toNat,by omega⟩
 unfold ZyE tb
 by_cases h1:m≥0
 case neg=>rw [dF0 h1];rfl
 by_cases h2:m≤30
 case neg=>rw [dT0 h1,dF0 h2,dF0 (show ¬ m<31 by omega)];rfl
 obtain ⟨k,rfl⟩:∃ k:Nat,m=k:=⟨m.toNat,by omega⟩
 have hk:k<31:=by omega
 have e1:((List.range 31).all fun k=>decide (IntKind.u64.wrap (k:Int)=(k:Int))&&decide (Min.min k IntKind.i64.bits=k))=true:=by kernel_rfl
 have e2:=List.all_eq_true.1 e1 k (List.mem_range.2 hk)
 simp only [Bool.and_eq_true,decide_eq_true_eq] at e2
 rw [dT0 h1,dT0 h2,e2.1,dF0 (show ¬ (k:Int)<0 by omega),dT0 (show (k:Int)<31 by omega)]
 simp only [cond_true,cond_false,tN0,e2.2,Bool.true_and]
 have e3:((n:Int).fdiv (2 ^ k))=((n / 2 ^ k:Nat):Int):=by
  rw [show ((2:Int) ^ k)=((2 ^ k:Nat):Int) by push_cast;rfl]
  rw [Int.fdiv_eq_ediv_of_nonneg _ (Int.natCast_nonneg _)]
  exact (Int.natCast_ediv n (2 ^ k)).symm
 have hlt:n / 2 ^ k<2147483648:=Nat.lt_of_le_of_lt (Nat.div_le_self _ _) (by omega)
 have e4:=ZxQ (a:=n / 2 ^ k) (b:=1) (by omega) (by decide)
 rw [e3,show ((1:Nat):Int)=1 from rfl] at *
 rw [e4]
 congr 1
 rw [Bool.eq_iff_iff,Nat.and_one_is_mod,Nat.testBit_eq_decide_div_mod_eq]
 simp only [beq_iff_eq,decide_eq_true_eq]
 omega
theorem ZoL (s m:Int) (hs:0≤s∧s<2147483648):Zva s [m]=some (((s.toNat ||| (bitV m).toNat:Nat):Int)):=by
 obtain ⟨n,rfl⟩:∃ n:Nat,s=n:=⟨s.toNat,by omega⟩
 obtain ⟨k,h1,h2,h3⟩:=ZxU m
 unfold Zva ZcL
 simp only [ZGl,Zc,h1,tN0]
 rw [ZN4 (by omega) (by omega)]
theorem ZGc {a b:Nat} (ha:a<9223372036854775808) (hb:b<9223372036854775808):∃ r:Nat,IntKind.i64.wrap ((BitVec.ofInt IntKind.i64.bits (a:Int) &&& ~~~BitVec.ofInt IntKind.i64.bits (b:Int)).toNat:Int)=(r:Int)∧r≤a∧∀ i,r.testBit i=(a.testBit i && !b.testBit i):=by
 refine ⟨(BitVec.ofInt IntKind.i64.bits (a:Int) &&& ~~~BitVec.ofInt IntKind.i64.bits (b:Int)).toNat,ZG8 _ ?_,?_,fun i=>?_⟩
 ·rw [BitVec.toNat_and,Zg6 a (by omega)]
  exact Nat.lt_of_le_of_lt Nat.and_le_left ha
 ·rw [BitVec.toNat_and,Zg6 a (by omega)]
  exact Nat.and_le_left
 ·rw [BitVec.toNat_and,Zg6 a (by omega),Nat.testBit_and,BitVec.toNat_not,Zg6 b (by omega)]
  by_cases hi:i<64
  ·rw [show 2 ^ IntKind.i64.bits - 1 - b=2 ^ 64 - (b+1) from by show 2 ^ 64 - 1 - b=_;omega,Nat.testBit_two_pow_sub_succ (by omega)]
   simp [hi]
  ·have:a.testBit i=false:=Nat.testBit_lt_two_pow (Nat.lt_of_lt_of_le ha (Nat.le_trans (by decide:9223372036854775808≤2 ^ 64) (Nat.pow_le_pow_right (by decide) (by omega))))
   rw [this];rfl
def woI (s m:Int):Int:=IntKind.i64.wrap ((BitVec.ofInt IntKind.i64.bits s &&& ~~~BitVec.ofInt IntKind.i64.bits (bitV m)).toNat:Int)
def wiI (s m:Int):Int:=((s.toNat ||| (bitV m).toNat:Nat):Int)
theorem ZwJ (s m:Int):Zn7 s [m]=some (woI s m):=by
 unfold Zn7 ZcL woI
 simp only [ZGl,Zc]
theorem ZFM (s m:Int) (hs:0≤s∧s<2147483648) (hm:0≤m∧m<31):Zvm s [m]=some (wiI s m):=by
 obtain ⟨n,rfl⟩:∃ n:Nat,s=n:=⟨s.toNat,by omega⟩
 obtain ⟨k,h1,h2,h3⟩:=ZxU m
 unfold Zvm wiI
 have e:WL ((n:Int),[m],0)=_:=Zzg [m] (n:Int) (by simp)
 rw [e]
 unfold ZhE
 have u0:¬ IntKind.u64.wrap m<0:=by
  have:IntKind.u64.wrap m=m % 18446744073709551616:=by simp [IntKind.wrap,IntKind.signed,IntKind.bits]
  rw [this];omega
 simp only [Zq,Zcl,Zhr]
 simp only [List.getElem?_cons_zero,Zc,dT0 hm.1,dT0 (show m≥0 from hm.1),dT0 (show m≤30 by omega),dF0 u0,cond_true,cond_false,ZKL m hm]
 have hb:bitV m=((2 ^ m.toNat:Nat):Int):=by unfold bitV;rw [if_pos hm]
 rw [← hb,h1,ZN4 (by omega) (by omega)]
 simp only [Zc,tN0]
theorem ZJw (s m:Int) (hm:0≤m∧m<31):Zob s [m]=some (woI s m):=by
 unfold Zob woI
 have e:YO (s,[m],0)=_:=Ztu [m] s (by simp)
 rw [e]
 unfold Zd6
 have u0:¬ IntKind.u64.wrap m<0:=by
  have:IntKind.u64.wrap m=m % 18446744073709551616:=by simp [IntKind.wrap,IntKind.signed,IntKind.bits]
  rw [this];omega
 simp only [Zq,WF,Zd3]
 simp only [List.getElem?_cons_zero,Zc,dT0 hm.1,dT0 (show m≥0 from hm.1),dT0 (show m≤30 by omega),dF0 u0,cond_true,cond_false,ZKL m hm]
 have hb:bitV m=((2 ^ m.toNat:Nat):Int):=by unfold bitV;rw [if_pos hm]
 rw [← hb]
def apI (a b:Int):Bool:=a.toNat &&& b.toNat==0
theorem ZJs (s:Int) (hs:0≤s∧s<9223372036854775808):∀ (k m:Nat) (acc:List Int),m+k=31→acc.length≤m→
  ∃ r,Zn K8 (k+1) (s,(m:Int),acc)=some r∧(r.length=0↔acc.length=0∧∀ i:Nat,m≤i→i<31→tb s (i:Int)=false)
 | 0,m,acc,h,ha=>by
  refine ⟨acc,?_,⟨fun k=>⟨k,fun i h1 h2=>by omega⟩,fun k=>k.1⟩⟩
  rw [Zn]
  simp only [K8,ZhS]
  rw [dF0 (show ¬ (m:Int)<31 by omega)]
  rfl
 | k+1,m,acc,h,ha=>by
  rw [Zn]
  simp only [K8,ZhS]
  rw [dT0 (show (m:Int)<31 by omega),Zu (show m<31 by omega) (by decide)]
  simp only [ZY,ZaI s m hs,Zc,cond_true]
  cases hb:tb s (m:Int)
  ·obtain ⟨r,e,q⟩:=ZJs s hs k (m+1) acc (by omega) (by omega)
   refine ⟨r,e,q.trans ⟨fun z=>⟨z.1,fun i h1 h2=>?_⟩,fun z=>⟨z.1,fun i h1 h2=>z.2 i (by omega) h2⟩⟩⟩
   by_cases hi:i=m
   ·subst hi;exact hb
   ·exact z.2 i (by omega) h2
  ·obtain ⟨r,e,q⟩:=ZJs s hs k (m+1) (acc++[(m:Int)]) (by omega) (by simp;omega)
   refine ⟨r,?_,q.trans ⟨fun z=>by simp at z,fun z=>?_⟩⟩
   ·simp only [cond_true]
    rw [dT0 (show (acc.length+[(m:Int)].length+1)*8≤lim by simp only [List.length_singleton];unfold lim;omega)]
    exact e
   ·have:=z.2 m (Nat.le_refl _) (by omega)
    rw [hb] at this;cases this
theorem ZOY {n:Nat} (h:n<2147483648) (hb:∀ i,i<31→n.testBit i=false):n=0:=Nat.eq_of_testBit_eq fun i=>by
 rw [Nat.zero_testBit]
 by_cases hi:i<31
 ·exact hb i hi
 ·exact Nat.testBit_lt_two_pow (Nat.lt_of_lt_of_le h (Nat.le_trans (by decide:2147483648≤2 ^ 31) (Nat.pow_le_pow_right (by decide) (by omega))))
theorem ZDo (a b:Int) (ha:0≤a∧a<2147483648) (hb:0≤b∧b<2147483648):Zr7 a b=some (apI a b):=by
 obtain ⟨x,rfl⟩:∃ n:Nat,a=n:=⟨a.toNat,by omega⟩
 obtain ⟨y,rfl⟩:∃ n:Nat,b=n:=⟨b.toNat,by omega⟩
 unfold Zr7 apI Zoy ZFB Zin
 rw [ZxQ (by omega) (by omega)]
 have hlt:x &&& y<2147483648:=Nat.lt_of_le_of_lt Nat.and_le_left (by omega)
 obtain ⟨r,e,q⟩:=ZJs ((x &&& y:Nat):Int) (by omega) 31 0 [] (by decide) (by decide)
 have e2:=Zms (31+1) Zr _ _ (by decide) e
 have e3:Zn K8 Zr ((((x &&& y:Nat):Int),0,[]):Int×Int×List Int)=some r:=e2
 simp only [e3,Zc,tN0]
 congr 1
 rw [Bool.eq_iff_iff]
 simp only [beq_iff_eq]
 constructor
 ·intro h
  have:=(q.1 (by omega)).2
  refine ZOY hlt fun i hi=>?_
  have k:=this i (Nat.zero_le _) hi
  unfold tb at k
  rw [dT0 (show (0:Int)≤(i:Int) by omega),dT0 (show (i:Int)<31 by omega)] at k
  simpa using k
 ·intro h
  have:=q.2 ⟨rfl,fun i _ _=>by unfold tb;rw [h];simp⟩
  omega
theorem ZNX (a b:Int) (ha:0≤a∧a<2147483648) (hb:0≤b∧b<2147483648):Zmq a b=some (apI a b):=by
 obtain ⟨x,rfl⟩:∃ n:Nat,a=n:=⟨a.toNat,by omega⟩
 obtain ⟨y,rfl⟩:∃ n:Nat,b=n:=⟨b.toNat,by omega⟩
 have hlt:x &&& y<2147483648:=Nat.lt_of_le_of_lt Nat.and_le_left (by omega)
 unfold Zmq apI
 rw [ZxQ (by omega) (by omega)]
 have:=ZxQ (a:=x &&& y) (b:=2147483647) (by omega) (by decide)
 rw [show ((2147483647:Nat):Int)=2147483647 from rfl] at this
 rw [this]
 have e:(x &&& y) &&& 2147483647=x &&& y:=by
  rw [show 2147483647=2 ^ 31 - 1 from rfl,Nat.and_two_pow_sub_one_of_lt_two_pow (by omega)]
 rw [e]
 congr 1
 rw [Bool.eq_iff_iff]
 simp only [beq_iff_eq,tN0]
 omega
def seesB (t:Int) (ar:Bool) (g h:Int) (e:En):Bool:=e.1 !=t&&(e.2.1==ar&&(e.2.2.1==g&&apI e.2.2.2.1 h))
def seenS (p:En→Bool) (v:I) (l:List En):I:=l.foldl (fun v e=>if p e then Zl v e.2.2.2.2 else v) v
def seenV (l:List En) (t:Int) (ar:Bool) (g h:Int):I:=seenS (seesB t ar g h) nn l
def gainV (l:List En) (t:Int) (ar:Bool) (g h m:Int):I:=seenS (fun e=>seesB t ar g h e&&tb e.2.2.2.1 m) nn l
theorem ZQZ (t:Int) (ar:Bool) (g h:Int) (hh:0≤h∧h<2147483648) (b0 b01 b1 b11:Int) (L:List En):∀ (l:List En) (i:Nat) (v:I),(∀ e∈l,entOK e)→
  Zq (fun i s d=>YJ t ar g h b0 b01 b1 b11 L i s.1 s.2 d) (fun s=>Ziv t ar g h b0 b01 b1 b11 L s.1 s.2) i l v=some (b0,b01,b1,b11,(seenS (seesB t ar g h) v l).1,(seenS (seesB t ar g h) v l).2)
 | [],i,v,_=>rfl
 | d::r,i,v,he=>by
  have ed:=he d (by simp)
  have h1:YJ t ar g h b0 b01 b1 b11 L i v.1 v.2 d=some (.inl (if seesB t ar g h d then Zl v d.2.2.2.2 else v)):=by
   unfold YJ seesB
   simp only [ZaQ,ZDo _ _ ed.h hh,ZM,Vo,Zc]
   cases d.1 !=t<;>cases d.2.1==ar<;>cases d.2.2.1==g<;>cases apI d.2.2.2.1 h<;>rfl
  rw [Zq]
  simp only [h1]
  exact ZQZ t ar g h hh b0 b01 b1 b11 L r (i+1) _ fun e k=>he e (List.mem_cons_of_mem _ k)
theorem ZRE (l:List En) (t:Int) (ar:Bool) (g h:Int) (hh:0≤h∧h<2147483648) (he:∀ e∈l,entOK e) (hl:l.length<9223372036854775807):ZyI l t ar g h=some (seenV l t ar g h):=by
 unfold ZyI
 have e:ZaX (t,ar,g,h,l,(l.length:Int),0,0,0,0,0,1,0)=_:=ZBI t ar g h 0 0 0 0 l nn hl
 rw [e]
 unfold ZiK
 rw [ZQZ t ar g h hh 0 0 0 0 l l 0 nn he]
 rfl
theorem ZOg (t:Int) (ar:Bool) (g h:Int) (hh:0≤h∧h<2147483648) (b0 b01:Int) (L:List En):∀ (l:List En) (i:Nat) (v:I),(∀ e∈l,entOK e)→
  Zq (fun i s d=>Kh t ar g h b0 b01 L i s.1 s.2 d) (fun s=>Zgn t ar g h b0 b01 L s.1 s.2) i l v=some (b0,b01,(seenS (seesB t ar g h) v l).1,(seenS (seesB t ar g h) v l).2)
 | [],i,v,_=>rfl
 | d::r,i,v,he=>by
  have ed:=he d (by simp)
  have ha:=ZNX _ _ ed.h hh
  unfold Zmq at ha
  have ha:=Option.some.inj ha
  have h1:Kh t ar g h b0 b01 L i v.1 v.2 d=some (.inl (if seesB t ar g h d then Zl v d.2.2.2.2 else v)):=by
   unfold Kh seesB
   rw [ha,Zav ed.v]
   simp only [ZH,KK,Zc]
   cases d.1 !=t<;>cases d.2.1==ar<;>cases d.2.2.1==g<;>cases apI d.2.2.2.1 h<;>rfl
  rw [Zq]
  simp only [h1]
  exact ZOg t ar g h hh b0 b01 L r (i+1) _ fun e k=>he e (List.mem_cons_of_mem _ k)
theorem ZDs (l:List En) (t:Int) (ar:Bool) (g h:Int) (hh:0≤h∧h<2147483648) (he:∀ e∈l,entOK e) (hl:l.length<9223372036854775807):Zsa l t ar g h=some (seenV l t ar g h):=by
 unfold Zsa
 have e:Vs (l,t,ar,g,h,0,0,0,1,0)=_:=Zw1 t ar g h 0 0 l nn hl
 rw [e]
 unfold ZgB
 rw [ZOg t ar g h hh 0 0 l l 0 nn he]
 rfl
theorem ZQu (t:Int) (ar:Bool) (g h m:Int) (hh:0≤h∧h<2147483648) (b1 b11 b2 b21:Int) (L:List En):∀ (l:List En) (i:Nat) (v:I),(∀ e∈l,entOK e)→
  Zq (fun i s d=>Kj t ar g h b1 b11 m b2 b21 L i s.1 s.2 d) (fun s=>Zgq t ar g h b1 b11 m b2 b21 L s.1 s.2) i l v =
   some (b1,b11,m,b2,b21,(seenS (fun e=>seesB t ar g h e&&tb e.2.2.2.1 m) v l).1,(seenS (fun e=>seesB t ar g h e&&tb e.2.2.2.1 m) v l).2)
 | [],i,v,_=>rfl
 | d::r,i,v,he=>by
  have ed:=he d (by simp)
  have h1:Kj t ar g h b1 b11 m b2 b21 L i v.1 v.2 d=some (.inl (if seesB t ar g h d&&tb d.2.2.2.1 m then Zl v d.2.2.2.2 else v)):=by
   unfold Kj seesB
   simp only [ZaQ,ZDo _ _ ed.h hh,ZY,ZaI d.2.2.2.1 m ⟨ed.h.1,by have:=ed.h.2;omega⟩,ZM,Vo,Zc]
   cases d.1 !=t<;>cases d.2.1==ar<;>cases d.2.2.1==g<;>cases apI d.2.2.2.1 h<;>cases tb d.2.2.2.1 m<;>rfl
  rw [Zq]
  simp only [h1]
  exact ZQu t ar g h m hh b1 b11 b2 b21 L r (i+1) _ fun e k=>he e (List.mem_cons_of_mem _ k)
theorem ZNZ (l:List En) (t:Int) (ar:Bool) (g h m:Int) (hh:0≤h∧h<2147483648) (he:∀ e∈l,entOK e) (hl:l.length<9223372036854775807):Zsg l t ar g h m=some (gainV l t ar g h m):=by
 unfold Zsg
 have e:Vu (t,ar,g,h,l,(l.length:Int),0,0,0,m,0,0,1,0)=_:=Zw3 t ar g h 0 0 m 0 0 l nn hl
 rw [e]
 unfold ZgD
 rw [ZQu t ar g h m hh 0 0 0 0 l l 0 nn he]
 rfl
theorem ZQo (t:Int) (ar:Bool) (g h m b0 b01:Int) (L:List En):∀ (l:List En) (i:Nat) (o:List En),(∀ e∈l,entOK e)→o.length+l.length<1000000000000→
  Zq (fun i s d=>Jv t ar g h m b0 b01 L i s d) (fun s=>Zd2 t ar g h m b0 b01 L s) i l o=some (t,ar,g,h,b0,b01,o++l.filter fun e=>tb e.2.2.2.1 m)
 | [],i,o,_,_=>by simp only [Zq,List.filter_nil,List.append_nil];rfl
 | d::r,i,o,he,hn=>by
  have ed:=he d (by simp)
  simp only [List.length_cons] at hn
  have h1:Jv t ar g h m b0 b01 L i o d=some (.inl (if tb d.2.2.2.1 m then o++[d] else o)):=by
   unfold Jv
   simp only [KM,ZmA d.2.2.2.1 m ed.h,Zc]
   rw [dT0 (show (o.length+[d].length+1)*48≤lim by simp only [List.length_singleton];unfold lim;omega)]
   cases tb d.2.2.2.1 m<;>rfl
  rw [Zq]
  simp only [h1]
  rw [ZQo t ar g h m b0 b01 L r (i+1) _ (fun e k=>he e (List.mem_cons_of_mem _ k)) (by split<;>(try simp only [List.length_append,List.length_singleton])<;>omega)]
  cases hb:tb d.2.2.2.1 m
  ·simp [hb]
  ·simp [hb]
theorem ZsR (p q:En→Bool):∀ (l:List En) (v:I),seenS p v (l.filter q)=seenS (fun e=>p e&&q e) v l
 | [],_=>rfl
 | d::r,v=>by
  unfold seenS
  cases hq:q d
  ·rw [List.filter_cons_of_neg (by simp [hq]),List.foldl_cons]
   simp only [hq,Bool.and_false,Bool.false_eq_true,if_false]
   exact ZsR p q r v
  ·rw [List.filter_cons_of_pos hq,List.foldl_cons,List.foldl_cons]
   simp only [hq,Bool.and_true]
   exact ZsR p q r _
theorem ZjZ (l:List En) (t:Int) (ar:Bool) (g h m:Int) (hh:0≤h∧h<2147483648) (he:∀ e∈l,entOK e) (hl:l.length<1000000000000):Zn9 l t ar g h m=some (gainV l t ar g h m):=by
 unfold Zn9
 have e:YM (l,t,ar,g,h,m,0,0,0,[])=_:=Ztt t ar g h m 0 0 l [] (by omega)
 rw [e]
 unfold Zd5
 rw [ZQo t ar g h m 0 0 l l 0 [] he (by simpa using hl)]
 simp only [Zc,List.nil_append,Zgg]
 rw [ZDs _ t ar g h hh (fun e k=>he e (List.mem_filter.1 k).1) (Nat.lt_of_le_of_lt (List.length_filter_le ..) (by omega))]
 simp only [Zc]
 unfold seenV gainV
 rw [ZsR]
abbrev Yw:=((List I)×(List I)×Int)
abbrev Q8:=Unit
abbrev Q9:=Bool
def VN (s0 s1:List I) (s5:Int):Option (((List I)×(List I)×Int)⊕(Unit⊕Bool)):=bif decide (s5<(s0.length:Int)) then bif decide (0≤s5) then Za s0[s5.toNat]? none fun d5=>bif decide (0≤s5) then Za s1[s5.toNat]? none fun d6=>bif !(d5.1==d6.1&&d5.2==d6.2) then some (.inr (.inr false)) else some (.inl (s0,s1,IntKind.i64.wrap (s5+1))) else none else none else some (.inr (.inl PUnit.unit))
def ZmW:Yw→Option (Yw⊕(Q8⊕Q9)):=fun (a,b,c)=>VN a b c
def Zdi (x:Yw):Option (Q8⊕Q9):=Zn ZmW Zr x
def Zjr (a0 a1:List I):Option Bool:=bif (a0.length:Int) !=(a1.length:Int) then some false else Za (Zdi (a0,a1,0)) none fun d4=>Sum.elim (fun e5=>some true) (fun e5=>some e5) d4
def ZcX (x:((List I)×((List I)×Unit))):Option Bool:=Zjr x.1 x.2.1
def VA (s1 s0:List I) (i:Nat)  (d:I):Option (Unit⊕(Q8⊕Q9)):=
 Za s1[i]? (none) fun d6=>
  bif !(d.1==d6.1&&d.2==d6.2) then
  some (.inr (.inr false))
 else some (.inl ())
def Zmh (s1 s0:List I):Option (Q8⊕Q9):=
 some (.inl PUnit.unit)
abbrev Zzq (s1 s0:List I) (i:Nat) (s:Unit):Yw:=(s0,s1,(i:Int))
def Zhz (s1 s0:List I) (s:Unit):Option (Q8⊕Q9):=Zq (fun i s d=>VA s1 s0 i  d) (fun s=>Zmh s1 s0 ) 0 s0 s
theorem ZmH (s1 s0:List I) (s:Unit) (hl:s0.length<9223372036854775807):Zdi (s0,s1,0)=Zhz s1 s0 s:=by
 unfold Zdi Zhz
 refine Zs s0 (Zzq s1 s0) _ _ ?_ ?_ s (by unfold Zr;omega)
 ·intro i s d hi hd
  have e1:decide ((i:Int)<(s0.length:Int))=true:=dT0 (by omega)
  have e2:decide (0≤(i:Int))=true:=dT0 (by omega)
  have e3:Int.toNat (i:Int)=i:=tN0 i
  have e4:=Zu hi (Nat.le_of_lt hl)
  show VN (s0) (s1) ((i:Int))=upd _ (VA s1 s0 i  d)
  unfold VN VA
  simp only [e1,e2,e3,e4,hd,cond_true,cond_false,Zc,ZD,ZG,ZE,ZK,ZL,ZF]
 ·intro s
  have e1:decide ((s0.length:Int)<(s0.length:Int))=false:=dF0 (by omega)
  show VN (s0) (s1) ((s0.length:Int))=_
  unfold VN Zmh
  rw [e1]
  rfl
def Zjp (a0 a1:E):Option Bool:=bif !a0.1 then some (a0.1==a1.1) else bif !a1.1 then some (a0.1==a1.1) else Za (ZcX (a0.2.1,a1.2.1,())) none fun d3=>bif d3 then Za (ZcX (a0.2.2.1,a1.2.2.1,())) none fun d4=>bif d4 then Za (ZcX (a0.2.2.2.1,a1.2.2.2.1,())) none fun d5=>bif d5 then bif a0.2.2.2.2.1==a1.2.2.2.2.1 then some (a0.2.2.2.2.2==a1.2.2.2.2.2) else some false else some false else some false else some false
def Vq (x:E×(E×Unit)):Option Bool:=Zjp x.1 x.2.1
def Zjt (a0:E) (a1:Int) (a2:I):Option E:=bif decide (((List.length (α:=I) [])+List.length a0.2.1+1)*16≤lim) then bif decide (0≤a1) then Za ([]++a0.2.1)[a1.toNat]? none fun d4=>Za ([]++a0.2.1)[a1.toNat]? none fun d5=>some (a0.1,([]++a0.2.1).set a1.toNat a2,a0.2.2.1,a0.2.2.2.1,a0.2.2.2.2.1,a0.2.2.2.2.2) else none else none
def Zw (x:(E×(Int×(I×Unit)))):Option E:=Zjt x.1 x.2.1 x.2.2.1
def ZLi:List Sh:=[.dat tU,.dat (.int .i64),.dat tE,.dat (.sl tEn),.dat .bool,.dat (.int .i64)]
def ZOF:List Con:=[⟨171,ZCB,ZOA⟩,⟨111,YQ,VH⟩]
def Zu9 (a0:U) (a1:Int) (a2:E) (a3:List En) (a4:Bool) (a5:Int):Option I:=bif a4 then bif decide (0≤a5) then Za a2.2.2.2.1[a5.toNat]? none fun d7=>Za (ZlW (a3,a1,a4,a5,a2.2.2.2.2.1,())) none fun d8=>Za (ZM ([d7,d8],())) none fun d9=>some (d9.1,d9.2) else none else bif decide (0≤a5) then Za a2.2.2.1[a5.toNat]? none fun d7=>Za (ZlW (a3,a1,a4,a5,a2.2.2.2.2.1,())) none fun d8=>Za (ZM ([d7,d8],())) none fun d9=>some (d9.1,d9.2) else none
def Qb (x:(U×(Int×(E×((List En)×(Bool×(Int×Unit))))))):Option I:=Zu9 x.1 x.2.1 x.2.2.1 x.2.2.2.1 x.2.2.2.2.1 x.2.2.2.2.2.1
def ZAh:=conP false ZLi (.dat tI) Qb
theorem ZLS:Zg Tryz.prog 133 ZAh:=Ze (calU ZOF [] 40 1048576 8 133) false (by rfl) (by rfl) (fun x r e=>(Zk _ _ _ _ _ _ _).trans ((show _=Qb x by kernel_rfl).trans e)) (.inr fun _=>rfl)
def Zsb (a0:Int) (a1:E) (a2:List En) (a3:Bool) (a4:Int):Option I:=Za (Zgg (a2,a0,a3,a4,a1.2.2.2.2.1,())) none fun d6=>bif a3 then bif decide (0≤a4) then Za a1.2.2.2.1[a4.toNat]? none fun d7=>Za (ZH (d7,d6,())) none fun d8=>some (d8.1,d8.2) else none else bif decide (0≤a4) then Za a1.2.2.1[a4.toNat]? none fun d7=>Za (ZH (d7,d6,())) none fun d8=>some (d8.1,d8.2) else none
def Qd (x:(Int×(E×((List En)×(Bool×(Int×Unit)))))):Option I:=Zsb x.1 x.2.1 x.2.2.1 x.2.2.2.1 x.2.2.2.2.1
def upto {α:Type} (f:Nat→α→α) (k:Nat) (l:List α):List α:=l.mapIdx fun j d=>if j<k then f j d else d
theorem ZTC {α:Type} (f:Nat→α→α) (l:List α):upto f 0 l=l:=by
 apply List.ext_getElem?
 intro j
 simp [upto]
theorem ZU3 {α:Type} (f:Nat→α→α) (l:List α):upto f l.length l=l.mapIdx f:=by
 apply List.ext_getElem?
 intro j
 simp only [upto,List.getElem?_mapIdx]
 cases h:l[j]? with
 | none=>rfl
 | some d=>
  have:=(List.getElem?_eq_some_iff.1 h).1
  simp [this]
theorem ZU4 {α:Type} (f:Nat→α→α) {l:List α} {i:Nat} {d:α} (h:l[i]? = some d):(upto f i l)[i]? = some d:=by
 simp only [upto,List.getElem?_mapIdx,h]
 simp
theorem ZU5 {α:Type} (f:Nat→α→α) {l:List α} {i:Nat} {d:α} (h:l[i]? = some d):(upto f i l).set i (f i d)=upto f (i+1) l:=by
 apply List.ext_getElem?
 intro j
 have hi:=(List.getElem?_eq_some_iff.1 h).1
 by_cases e:i=j
 ·subst e
  rw [List.getElem?_set_self (by simp [upto];exact hi)]
  simp only [upto,List.getElem?_mapIdx,h]
  simp
 ·rw [List.getElem?_set_ne e]
  simp only [upto,List.getElem?_mapIdx]
  cases l[j]? with
  | none=>rfl
  | some x=>
   by_cases k:j<i
   ·simp [k,show j<i+1 by omega]
   ·simp [k,show ¬ j<i+1 by omega]
theorem ZOW {α:Type} (f:Nat→α→α) (k:Nat) (l:List α):(upto f k l).length=l.length:=by simp [upto]
theorem Zlh {X Y α:Type} {step:X→Option (X⊕Y)} (rx:Nat→List α→X) (f:Nat→α→α) (fin:List α→Y) (l:List α)
  (hs:∀ i d r,l[i]? = some d→r.length=l.length→r[i]? = some d→step (rx i r)=some (.inl (rx (i+1) (r.set i (f i d)))))
  (he:∀ r,r.length=l.length→step (rx l.length r)=some (.inr (fin r))) (hl:l.length<9223372036854775807):Zn step Zr (rx 0 l)=some (fin (l.mapIdx f)):=by
 have go:∀ k i,i+k=l.length→Zn step (k+1) (rx i (upto f i l))=some (fin (l.mapIdx f)):=by
  intro k
  induction k with
  | zero=>
   intro i hi
   have:i=l.length:=by omega
   subst this
   rw [Zn,he _ (ZOW _ _ _),ZU3]
  | succ k ih=>
   intro i hi
   obtain ⟨d,hd⟩:∃ d,l[i]? = some d:=⟨l[i]'(by omega),List.getElem?_eq_getElem _⟩
   rw [Zn,hs i d _ hd (ZOW _ _ _) (ZU4 f hd),ZU5 f hd]
   exact ih (i+1) (by omega)
 have:=go l.length 0 (by omega)
 rw [ZTC] at this
 exact Zms _ _ _ _ (by unfold Zr;omega) this
def Zxh (e:E):Prop:=e.2.1.length<9223372036854775807∧e.2.2.1.length<9223372036854775807∧e.2.2.2.1.length<9223372036854775807
def HC (o:O):Prop:=Zxh o.1∧Zxh o.2.1∧o.2.2.1.length<9223372036854775807∧o.2.2.2.1.length<9223372036854775807∧o.2.2.2.2.length<9223372036854775807
theorem ZJM {p:En→Bool}:∀ {l:List En} {v:I},isB v=true→(∀ e∈l,entOK e)→isB (seenS p v l)=true
 | [],v,hv,_=>hv
 | e::r,v,hv,h=>by
  unfold seenS
  rw [List.foldl_cons]
  refine ZJM (l:=r) ?_ fun x hx=>h x (List.mem_cons_of_mem _ hx)
  have he:=(h e (List.mem_cons_self ..)).v
  split
  ·rw [Zav he];exact Zhv hv he
  ·exact hv
theorem ZRF:isB nn=true:=by decide
theorem ZOn {l:List En} {t:Int} {ar:Bool} {g h:Int} (he:∀ e∈l,entOK e):isB (seenV l t ar g h)=true:=ZJM ZRF he
theorem Zoc {l:List En} {t:Int} {ar:Bool} {g h m:Int} (he:∀ e∈l,entOK e):isB (gainV l t ar g h m)=true:=ZJM ZRF he
def readV (d:I) (l:List En) (t:Int) (ar:Bool) (g h:Int):I:=rJoin d (seenV l t ar g h)
theorem ZoK (u:U) (t:Int) (e:E) (l:List En) (ar:Bool) (g:Int) (d:I) (hg:0≤g) (hd:(if ar then e.2.2.2.1 else e.2.2.1)[g.toNat]? = some d)
  (hh:0≤e.2.2.2.2.1∧e.2.2.2.2.1<2147483648) (he:∀ e∈l,entOK e) (hl:l.length<9223372036854775807):Zu9 u t e l ar g=some (readV d l t ar g e.2.2.2.2.1):=by
 unfold Zu9 ZlW ZM
 simp only [ZRE l t ar g _ hh he hl,Zc,Vo,ZEc hg,Zav (ZOn he)]
 cases ar<;>(simp only [Bool.false_eq_true,if_true,if_false] at hd;rw [hd];rfl)
theorem ZDt (t:Int) (e:E) (l:List En) (ar:Bool) (g:Int) (d:I) (hg:0≤g) (hd:(if ar then e.2.2.2.1 else e.2.2.1)[g.toNat]? = some d)
  (hh:0≤e.2.2.2.2.1∧e.2.2.2.2.1<2147483648) (he:∀ e∈l,entOK e) (hl:l.length<9223372036854775807):Zsb t e l ar g=some (readV d l t ar g e.2.2.2.2.1):=by
 unfold Zsb Zgg ZH
 simp only [ZDs l t ar g _ hh he hl,Zc,KK,ZEc hg]
 cases ar<;>(simp only [Bool.false_eq_true,if_true,if_false] at hd;rw [hd];rfl)
theorem YR (e:E) (T:Int) (v:I) (h0:0≤T) (h1:T<(e.2.1.length:Int)) (h2:e.2.1.length≤1000):Zjt e T v=some (e.1,e.2.1.set T.toNat v,e.2.2):=by
 unfold Zjt
 obtain ⟨d,hd⟩:∃ d,e.2.1[T.toNat]? = some d:=⟨e.2.1[T.toNat]'(by omega),List.getElem?_eq_getElem _⟩
 simp only [List.nil_append,List.length_nil,Nat.zero_add]
 rw [ZEc (by unfold lim;omega),ZEc h0,hd]
 rfl
def ZAS:Ctx:={ tab:=tab,spec:=fun _=>none,inl:=inl,lps:=fun _ _=>none,fuel:=40 }
def Zco:List AV→Prog AV:=ZHt 16 tI
theorem ZhR:Zg Tryz.prog 173 Zco:=
 ZFt (cx:=ZAS) (cal:=fun _ _=>.fail) (i:=⟨(.sl (.st (.pair (.int .i64) (.int .i64)))),24,46,[],false⟩) (ie:=⟨(.st (.pair (.int .i64) (.int .i64))),16,0,[(0,1),(1,1)],true⟩) (Zos ZsZ) Tryz.func173 (ZNw 173 Tryz.f173 rfl).2 (t:=42) (tb:=4) (s0 := "slices.go:355") (s1 := "slices.go:357") (s2 := "slices.go:358") (s3 := "slices.go:362") (by kernel_rfl) (by kernel_rfl) (by kernel_rfl) rfl rfl rfl rfl
abbrev ZlJ:Type:=(Int×Int×Int×Int×Int×Int×Int×Int×Int×(List Int)×(List Int)×Int×(List C)×Int×Int×Bool×(List I)×(List I)×(List I)×Int×Int×(List En)×Bool×(List I)×(List I)×(List I)×Int×Int×Bool×(List I)×(List I)×(List I)×Int×Int×(List Int)×(List En)×(List Ac)×Bool×Int×Int×(List I))
def ZAP:List Sh:=[.view [.int .i64,.int .i64,.int .i64,.int .i64,.int .i64,.int .i64,.int .i64,.int .i64,.int .i64,.sln (.int .i64),.sln (.int .i64),.int .i64,.sln tC,.int .i64,.int .i64,.bool,.sln tI,.sln tI,.sln tI,.int .i64,.int .i64,.sln tEn,.bool,.sln tI,.sln tI,.sln tI,.int .i64,.int .i64,.bool,.sln tI,.sln tI,.sln tI,.int .i64,.int .i64,.sln (.int .i64),.sln tEn,.sln tAc] 0,.dat (.sl tI),.dat .bool]
def Zjv:Nat→List Nat:=fun c=>bif c.beq 0 then [0,1,2,11,12,13] else [1]
def ZpL:List Con:=[⟨173,Zco,ZhR⟩,⟨201,ZvY,ZJ2⟩,⟨111,YQ,VH⟩]
def Vn:StS:=⟨[(0,.view [.int .i64,.int .i64,.int .i64,.int .i64,.int .i64,.int .i64,.int .i64,.int .i64,.int .i64,.sl (.int .i64),.sl (.int .i64),.int .i64,.sl tC,.int .i64,.int .i64,.bool,.sl tI,.sl tI,.sl tI,.int .i64,.int .i64,.sl tEn,.bool,.sl tI,.sl tI,.sl tI,.int .i64,.int .i64,.bool,.sl tI,.sl tI,.sl tI,.int .i64,.int .i64,.sl (.int .i64),.sl tEn,.sl tAc] 0),(1,.row 0),(2,.bool),(11,.row 0),(12,.int .i64),(13,.int .i64)],[(0,.row tI)],1⟩
def Jt:StS:=⟨[(1,.row 0)],[(0,.row tI)],1⟩
abbrev Ka:=ZlJ
def ZpZ:StD Vn→Ka:=fun (((a,b,c,d,e,f,g,h,i,j,k,l,m,n,o,p,q,r,s,t,u,w,y,z,au,aw,ay,az,bu,bw,bz,cu,cw,cy,cz,du,dw,_),_,dy,_,dz,eu,_),(ew,_))=>(a,b,c,d,e,f,g,h,i,j,k,l,m,n,o,p,q,r,s,t,u,w,y,z,au,aw,ay,az,bu,bw,bz,cu,cw,cy,cz,du,dw,dy,dz,eu,ew)
def Zqh:Ka→StD Vn:=fun (a,b,c,d,e,f,g,h,i,j,k,l,m,n,o,p,q,r,s,t,u,w,y,z,au,aw,ay,az,bu,bw,bz,cu,cw,cy,cz,du,dw,dy,dz,eu,ew)=>(((a,b,c,d,e,f,g,h,i,j,k,l,m,n,o,p,q,r,s,t,u,w,y,z,au,aw,ay,az,bu,bw,bz,cu,cw,cy,cz,du,dw,()),(),dy,(),dz,eu,()),(ew,()))
abbrev Ym:=(List I)
def Zn4 (d:StD Jt):Ym:=(d.2.1)
def Zax (x:Ym):StD Jt:=(((),()),(x,()))
def JU (s0 s0_1 s0_2 s0_3 s0_4 s0_5 s0_6 s0_7 s0_8:Int) (s0_9 s0_10:List Int) (s0_11:Int) (s0_12:List C) (s0_13 s0_14:Int) (s0_15:Bool) (s0_16 s0_17 s0_18:List I) (s0_19 s0_20:Int) (s0_21:List En) (s0_22:Bool) (s0_23 s0_24 s0_25:List I) (s0_26 s0_27:Int) (s0_28:Bool) (s0_29 s0_30 s0_31:List I) (s0_32 s0_33:Int) (s0_34:List Int) (s0_35:List En) (s0_36:List Ac) (s2:Bool) (s12 s13:Int) (b0:List I):Option (ZlJ⊕(List I)):=bif decide (s13<s12) then bif decide (0≤s13) then Za b0[s13.toNat]? none fun d43=>Za b0[s13.toNat]? none fun d44=>Za (ZlV (s0_21,s0_13,s2,s13,s0_19,s0_4,())) none fun d45=>Za (ZM ([d44,d45],())) none fun d46=>bif decide (0≤s13) then Za b0[s13.toNat]? none fun d47=>Za b0[s13.toNat]? none fun d48=>some (.inl (s0,s0_1,s0_2,s0_3,s0_4,s0_5,s0_6,s0_7,s0_8,s0_9,s0_10,s0_11,s0_12,s0_13,s0_14,s0_15,s0_16,s0_17,s0_18,s0_19,s0_20,s0_21,s0_22,s0_23,s0_24,s0_25,s0_26,s0_27,s0_28,s0_29,s0_30,s0_31,s0_32,s0_33,s0_34,s0_35,s0_36,s2,s12,IntKind.i64.wrap (s13+1),b0.set s13.toNat d46)) else none else none else some (.inr b0)
def Zie:Ka→Option (Ka⊕Ym):=fun (a,b,c,d,e,f,g,h,i,j,k,l,m,n,o,p,q,r,s,t,u,w,y,z,au,aw,ay,az,bu,bw,bz,cu,cw,cy,cz,du,dw,dy,dz,eu,ew)=>JU a b c d e f g h i j k l m n o p q r s t u w y z au aw ay az bu bw bz cu cw cy cz du dw dy dz eu ew
def Vm (x:Ka):Option Ym:=Zn Zie Zr x
def Zj9:Nat→Tm→Prog (Nat×Tm):=(varP 0 (fun T h=>(rdS Vn T h).map ZpZ) Vm (altE 2 Jt Zax) (fun _ _=>.fail))
def Zsm:Lpc:=⟨176,0,47,(fun base T=>.norm base (Zjv 0) T (Zj9 base)),by kernel_rfl,by kernel_rfl,(loopU ZpL [] 40 1048576 8 (keep:=Zjv) (q:=Zj9) (by kernel_rfl) (ZA (s:=Vn) (un:=Zqh) (by rfl) (fun _=>rfl) (Zp (s:=Jt) (un:=Zax) (flat:=Zn4) (by rfl) (fun _=>rfl)) (step:=Zie) (fun _=>by kernel_rfl) (fun _ _ e=>⟨_,e⟩) (Zo 2 Jt Zax) (ZI.fail _ _)))⟩
def Zki (a0 a1 a2 a3 a4 a5 a6 a7 a8:Int) (a9 a10:List Int) (a11:Int) (a12:List C) (a13 a14:Int) (a15:Bool) (a16 a17 a18:List I) (a19 a20:Int) (a21:List En) (a22:Bool) (a23 a24 a25:List I) (a26 a27:Int) (a28:Bool) (a29 a30 a31:List I) (a32 a33:Int) (a34:List Int) (a35:List En) (a36:List Ac) (a37:List I) (a38:Bool):Option (List I):=bif decide (((List.length (α:=I) [])+a37.length+1)*16≤lim) then Za (Vm (a0,a1,a2,a3,a4,a5,a6,a7,a8,a9,a10,a11,a12,a13,a14,a15,a16,a17,a18,a19,a20,a21,a22,a23,a24,a25,a26,a27,a28,a29,a30,a31,a32,a33,a34,a35,a36,a38,(↑([]++a37).length:Int),0,[]++a37)) none fun d41=>some d41 else none
def Z7 (x:((Int×(Int×(Int×(Int×(Int×(Int×(Int×(Int×(Int×((List Int)×((List Int)×(Int×((List C)×(Int×(Int×(Bool×((List I)×((List I)×((List I)×(Int×(Int×((List En)×(Bool×((List I)×((List I)×((List I)×(Int×(Int×(Bool×((List I)×((List I)×((List I)×(Int×(Int×((List Int)×((List En)×((List Ac)×Unit)))))))))))))))))))))))))))))))))))))×((List I)×(Bool×Unit)))):Option (List I):=Zki x.1.1 x.1.2.1 x.1.2.2.1 x.1.2.2.2.1 x.1.2.2.2.2.1 x.1.2.2.2.2.2.1 x.1.2.2.2.2.2.2.1 x.1.2.2.2.2.2.2.2.1 x.1.2.2.2.2.2.2.2.2.1 x.1.2.2.2.2.2.2.2.2.2.1 x.1.2.2.2.2.2.2.2.2.2.2.1 x.1.2.2.2.2.2.2.2.2.2.2.2.1 x.1.2.2.2.2.2.2.2.2.2.2.2.2.1 x.1.2.2.2.2.2.2.2.2.2.2.2.2.2.1 x.1.2.2.2.2.2.2.2.2.2.2.2.2.2.2.1 x.1.2.2.2.2.2.2.2.2.2.2.2.2.2.2.2.1 x.1.2.2.2.2.2.2.2.2.2.2.2.2.2.2.2.2.1 x.1.2.2.2.2.2.2.2.2.2.2.2.2.2.2.2.2.2.1 x.1.2.2.2.2.2.2.2.2.2.2.2.2.2.2.2.2.2.2.1 x.1.2.2.2.2.2.2.2.2.2.2.2.2.2.2.2.2.2.2.2.1 x.1.2.2.2.2.2.2.2.2.2.2.2.2.2.2.2.2.2.2.2.2.1 x.1.2.2.2.2.2.2.2.2.2.2.2.2.2.2.2.2.2.2.2.2.2.1 x.1.2.2.2.2.2.2.2.2.2.2.2.2.2.2.2.2.2.2.2.2.2.2.1 x.1.2.2.2.2.2.2.2.2.2.2.2.2.2.2.2.2.2.2.2.2.2.2.2.1 x.1.2.2.2.2.2.2.2.2.2.2.2.2.2.2.2.2.2.2.2.2.2.2.2.2.1 x.1.2.2.2.2.2.2.2.2.2.2.2.2.2.2.2.2.2.2.2.2.2.2.2.2.2.1 x.1.2.2.2.2.2.2.2.2.2.2.2.2.2.2.2.2.2.2.2.2.2.2.2.2.2.2.1 x.1.2.2.2.2.2.2.2.2.2.2.2.2.2.2.2.2.2.2.2.2.2.2.2.2.2.2.2.1 x.1.2.2.2.2.2.2.2.2.2.2.2.2.2.2.2.2.2.2.2.2.2.2.2.2.2.2.2.2.1 x.1.2.2.2.2.2.2.2.2.2.2.2.2.2.2.2.2.2.2.2.2.2.2.2.2.2.2.2.2.2.1 x.1.2.2.2.2.2.2.2.2.2.2.2.2.2.2.2.2.2.2.2.2.2.2.2.2.2.2.2.2.2.2.1 x.1.2.2.2.2.2.2.2.2.2.2.2.2.2.2.2.2.2.2.2.2.2.2.2.2.2.2.2.2.2.2.2.1 x.1.2.2.2.2.2.2.2.2.2.2.2.2.2.2.2.2.2.2.2.2.2.2.2.2.2.2.2.2.2.2.2.2.1 x.1.2.2.2.2.2.2.2.2.2.2.2.2.2.2.2.2.2.2.2.2.2.2.2.2.2.2.2.2.2.2.2.2.2.1 x.1.2.2.2.2.2.2.2.2.2.2.2.2.2.2.2.2.2.2.2.2.2.2.2.2.2.2.2.2.2.2.2.2.2.2.1 x.1.2.2.2.2.2.2.2.2.2.2.2.2.2.2.2.2.2.2.2.2.2.2.2.2.2.2.2.2.2.2.2.2.2.2.2.1 x.1.2.2.2.2.2.2.2.2.2.2.2.2.2.2.2.2.2.2.2.2.2.2.2.2.2.2.2.2.2.2.2.2.2.2.2.2.1 x.2.1 x.2.2.1
def Znj:=conR false ZAP tI Z7
theorem ZBY:Zg Tryz.prog 176 Znj:=Zhk (calU ZpL [Zsm] 40 1048576 8 176) false (by rfl) (fun x r e=>(Zn2 _ _ _ _ _ _ _).trans ((show _=Z7 x by kernel_rfl).trans e)) (.inr (by rfl))
abbrev Zgb:Type:=(Int×(List En)×Int×Int×Int×Int×Int×Int×Int×Int×Int×Int×Bool×(List I)×(List I)×(List I)×Int×Int×Bool×Int×Int×Bool×Int×Int×Bool×Int×Int×Bool×Int×Int×(List Int)×Bool×(List I)×Int×Int×(List I)×(List I))
abbrev Zq7:Type:=(Int×(List En)×Int×Int×Int×Int×Int×Int×Int×Int×Int×Bool×(List I)×(List I)×(List I)×Int×Int×Bool×Int×Int×Bool×Int×Int×Bool×Int×Int×Bool×Int×Int×(List Int)×Bool×(List I)×Int×Int×(List I)×(List I))
abbrev Zgc:Type:=(Int×(List En)×Int×Int×Int×Int×Int×Int×Int×Int×Int×Int×Bool×(List I)×(List I)×(List I)×Int×Int×Bool×Int×Int×Bool×Int×Int×Bool×Int×Int×Bool×Int×Int×Bool×(List I)×Int×Int×(List I)×(List I))
abbrev Zq8:Type:=(Int×(List En)×Int×Int×Int×Int×Int×Int×Int×Int×Int×Bool×(List I)×(List I)×(List I)×Int×Int×Bool×Int×Int×Bool×Int×Int×Bool×Int×Int×Bool×Int×Int×Bool×(List I)×Int×Int×(List I)×(List I))
abbrev Zq9:Type:=(Int×Int×Int×Int×Int×Int×Int×Int×Int×Bool×(List I)×(List I)×(List I)×Int×Int×Bool×Int×Int×Bool×Int×Int×Bool×Int×Int×Bool×Int×Int×(List Int)×Bool×(List I)×Int×Int×(List I)×(List I))
abbrev Zra:Type:=(Int×Int×Int×Int×Int×Int×Int×Int×Int×Bool×(List I)×(List I)×(List I)×Int×Int×Bool×Int×Int×Bool×Int×Int×Bool×Int×Int×Bool×Int×Int×Bool×(List I)×Int×Int×(List I)×(List I))
abbrev WU:=Zgb
abbrev Zbu:=Zq7
def VQ (s0:Int) (s3:List En) (s11 b0 b0_1 b0_2 b0_3 b0_4 b0_5 b0_6 b0_7 b0_8:Int) (b1:Bool) (b1_1 b1_2 b1_3:List I) (b1_4 b1_5:Int) (b2:Bool) (b2_1 b2_2:Int) (b2_3:Bool) (b2_4 b2_5:Int) (b3:Bool) (b3_1 b3_2:Int) (b3_3:Bool) (b3_4 b3_5:Int) (b4:List Int) (b5:Bool) (b5_1:List I) (b5_2 b5_3:Int) (b6 b7:List I):Option (Zgb⊕Zq7):=bif decide (s11<(b6.length:Int)) then bif decide (0≤s11) then Za b6[s11.toNat]? none fun d42=>Za b6[s11.toNat]? none fun d43=>Za (JV (s3,s0,false,s11,b1_4,b0_4,())) none fun d44=>Za (ZH (d43,d44,())) none fun d45=>bif decide (0≤s11) then Za b6[s11.toNat]? none fun d46=>Za b6[s11.toNat]? none fun d47=>some (.inl (s0,s3,IntKind.i64.wrap (s11+1),b0,b0_1,b0_2,b0_3,b0_4,b0_5,b0_6,b0_7,b0_8,b1,b1_1,b1_2,b1_3,b1_4,b1_5,b2,b2_1,b2_2,b2_3,b2_4,b2_5,b3,b3_1,b3_2,b3_3,b3_4,b3_5,b4,b5,b5_1,b5_2,b5_3,b6.set s11.toNat d45,b7)) else none else none else some (.inr (s0,s3,b0,b0_1,b0_2,b0_3,b0_4,b0_5,b0_6,b0_7,b0_8,b1,b1_1,b1_2,b1_3,b1_4,b1_5,b2,b2_1,b2_2,b2_3,b2_4,b2_5,b3,b3_1,b3_2,b3_3,b3_4,b3_5,b4,b5,b5_1,b5_2,b5_3,b6,b7))
def ZmZ:WU→Option (WU⊕Zbu):=fun (a,b,c,d,e,f,g,h,i,j,k,l,m,n,o,p,q,r,s,t,u,w,y,z,au,aw,ay,az,bu,bw,bz,cu,cw,cy,cz,du,dw)=>VQ a b c d e f g h i j k l m n o p q r s t u w y z au aw ay az bu bw bz cu cw cy cz du dw
def Zdl (x:WU):Option Zbu:=Zn ZmZ Zr x
abbrev WS:=Zgc
abbrev Zbt:=Zq8
def VP (s0:Int) (s3:List En) (s11 b0 b0_1 b0_2 b0_3 b0_4 b0_5 b0_6 b0_7 b0_8:Int) (b1:Bool) (b1_1 b1_2 b1_3:List I) (b1_4 b1_5:Int) (b2:Bool) (b2_1 b2_2:Int) (b2_3:Bool) (b2_4 b2_5:Int) (b3:Bool) (b3_1 b3_2:Int) (b3_3:Bool) (b3_4 b3_5:Int) (b4:Bool) (b4_1:List I) (b4_2 b4_3:Int) (b5 b6:List I):Option (Zgc⊕Zq8):=bif decide (s11<(b5.length:Int)) then bif decide (0≤s11) then Za b5[s11.toNat]? none fun d41=>Za b5[s11.toNat]? none fun d42=>Za (JV (s3,s0,false,s11,b1_4,b0_4,())) none fun d43=>Za (ZH (d42,d43,())) none fun d44=>bif decide (0≤s11) then Za b5[s11.toNat]? none fun d45=>Za b5[s11.toNat]? none fun d46=>some (.inl (s0,s3,IntKind.i64.wrap (s11+1),b0,b0_1,b0_2,b0_3,b0_4,b0_5,b0_6,b0_7,b0_8,b1,b1_1,b1_2,b1_3,b1_4,b1_5,b2,b2_1,b2_2,b2_3,b2_4,b2_5,b3,b3_1,b3_2,b3_3,b3_4,b3_5,b4,b4_1,b4_2,b4_3,b5.set s11.toNat d44,b6)) else none else none else some (.inr (s0,s3,b0,b0_1,b0_2,b0_3,b0_4,b0_5,b0_6,b0_7,b0_8,b1,b1_1,b1_2,b1_3,b1_4,b1_5,b2,b2_1,b2_2,b2_3,b2_4,b2_5,b3,b3_1,b3_2,b3_3,b3_4,b3_5,b4,b4_1,b4_2,b4_3,b5,b6))
def ZmY:WS→Option (WS⊕Zbt):=fun (a,b,c,d,e,f,g,h,i,j,k,l,m,n,o,p,q,r,s,t,u,w,y,z,au,aw,ay,az,bu,bw,bz,cu,cw,cy,cz,du)=>VP a b c d e f g h i j k l m n o p q r s t u w y z au aw ay az bu bw bz cu cw cy cz du
def Zdk (x:WS):Option Zbt:=Zn ZmY Zr x
abbrev WW:=Zgb
abbrev Zbw:=Zq9
def VS (s0:Int) (s3:List En) (s12 b0 b0_1 b0_2 b0_3 b0_4 b0_5 b0_6 b0_7 b0_8:Int) (b1:Bool) (b1_1 b1_2 b1_3:List I) (b1_4 b1_5:Int) (b2:Bool) (b2_1 b2_2:Int) (b2_3:Bool) (b2_4 b2_5:Int) (b3:Bool) (b3_1 b3_2:Int) (b3_3:Bool) (b3_4 b3_5:Int) (b4:List Int) (b5:Bool) (b5_1:List I) (b5_2 b5_3:Int) (b6 b7:List I):Option (Zgb⊕Zq9):=bif decide (s12<(b7.length:Int)) then bif decide (0≤s12) then Za b7[s12.toNat]? none fun d42=>Za b7[s12.toNat]? none fun d43=>Za (JV (s3,s0,true,s12,b1_4,b0_4,())) none fun d44=>Za (ZH (d43,d44,())) none fun d45=>bif decide (0≤s12) then Za b7[s12.toNat]? none fun d46=>Za b7[s12.toNat]? none fun d47=>some (.inl (s0,s3,IntKind.i64.wrap (s12+1),b0,b0_1,b0_2,b0_3,b0_4,b0_5,b0_6,b0_7,b0_8,b1,b1_1,b1_2,b1_3,b1_4,b1_5,b2,b2_1,b2_2,b2_3,b2_4,b2_5,b3,b3_1,b3_2,b3_3,b3_4,b3_5,b4,b5,b5_1,b5_2,b5_3,b6,b7.set s12.toNat d45)) else none else none else some (.inr (b0,b0_1,b0_2,b0_3,b0_4,b0_5,b0_6,b0_7,b0_8,b1,b1_1,b1_2,b1_3,b1_4,b1_5,b2,b2_1,b2_2,b2_3,b2_4,b2_5,b3,b3_1,b3_2,b3_3,b3_4,b3_5,b4,b5,b5_1,b5_2,b5_3,b6,b7))
def Zm1:WW→Option (WW⊕Zbw):=fun (a,b,c,d,e,f,g,h,i,j,k,l,m,n,o,p,q,r,s,t,u,w,y,z,au,aw,ay,az,bu,bw,bz,cu,cw,cy,cz,du,dw)=>VS a b c d e f g h i j k l m n o p q r s t u w y z au aw ay az bu bw bz cu cw cy cz du dw
def Zdn (x:WW):Option Zbw:=Zn Zm1 Zr x
abbrev WV:=Zgc
abbrev Zbv:=Zra
def VR (s0:Int) (s3:List En) (s12 b0 b0_1 b0_2 b0_3 b0_4 b0_5 b0_6 b0_7 b0_8:Int) (b1:Bool) (b1_1 b1_2 b1_3:List I) (b1_4 b1_5:Int) (b2:Bool) (b2_1 b2_2:Int) (b2_3:Bool) (b2_4 b2_5:Int) (b3:Bool) (b3_1 b3_2:Int) (b3_3:Bool) (b3_4 b3_5:Int) (b4:Bool) (b4_1:List I) (b4_2 b4_3:Int) (b5 b6:List I):Option (Zgc⊕Zra):=bif decide (s12<(b6.length:Int)) then bif decide (0≤s12) then Za b6[s12.toNat]? none fun d41=>Za b6[s12.toNat]? none fun d42=>Za (JV (s3,s0,true,s12,b1_4,b0_4,())) none fun d43=>Za (ZH (d42,d43,())) none fun d44=>bif decide (0≤s12) then Za b6[s12.toNat]? none fun d45=>Za b6[s12.toNat]? none fun d46=>some (.inl (s0,s3,IntKind.i64.wrap (s12+1),b0,b0_1,b0_2,b0_3,b0_4,b0_5,b0_6,b0_7,b0_8,b1,b1_1,b1_2,b1_3,b1_4,b1_5,b2,b2_1,b2_2,b2_3,b2_4,b2_5,b3,b3_1,b3_2,b3_3,b3_4,b3_5,b4,b4_1,b4_2,b4_3,b5,b6.set s12.toNat d44)) else none else none else some (.inr (b0,b0_1,b0_2,b0_3,b0_4,b0_5,b0_6,b0_7,b0_8,b1,b1_1,b1_2,b1_3,b1_4,b1_5,b2,b2_1,b2_2,b2_3,b2_4,b2_5,b3,b3_1,b3_2,b3_3,b3_4,b3_5,b4,b4_1,b4_2,b4_3,b5,b6))
def Zm0:WV→Option (WV⊕Zbv):=fun (a,b,c,d,e,f,g,h,i,j,k,l,m,n,o,p,q,r,s,t,u,w,y,z,au,aw,ay,az,bu,bw,bz,cu,cw,cy,cz,du)=>VR a b c d e f g h i j k l m n o p q r s t u w y z au aw ay az bu bw bz cu cw cy cz du
def Zdm (x:WV):Option Zbv:=Zn Zm0 Zr x
def ZCS (a0:Int) (a1:A) (a2:E) (a3:List En):Option O:=Za (KM (a2.2.2.2.2.2,a1.2.2.2.2.1,())) none fun d9=>bif d9 then Za (KM (a2.2.2.2.2.1,a1.2.2.2.2.1,())) none fun d10=>bif d10 then some (((false,[],[],[],0,0):E),((false,[],[],[],0,0):E),[11],[],[]) else bif decide (((List.length (α:=I) [])+List.length a2.2.2.1+1)*16≤lim) then bif decide (((List.length (α:=I) [])+List.length a2.2.2.2.1+1)*16≤lim) then Za (Zdl (a0,a3,0,a1.1,a1.2.1,a1.2.2.1,a1.2.2.2.1,a1.2.2.2.2.1,a1.2.2.2.2.2.1,a1.2.2.2.2.2.2.1,a1.2.2.2.2.2.2.2.1,a1.2.2.2.2.2.2.2.2,a2.1,a2.2.1,a2.2.2.1,a2.2.2.2.1,a2.2.2.2.2.1,a2.2.2.2.2.2,false,0,0,false,0,0,false,0,0,false,0,0,[11],a2.1,a2.2.1,a2.2.2.2.2.1,a2.2.2.2.2.2,[]++a2.2.2.1,[]++a2.2.2.2.1)) none fun d11=>Za (Zdn (d11.1,d11.2.1,0,d11.2.2)) none fun d12=>Za (Zfh (d12.2.2.2.2.2.2.2.2.2.2.2.2.2.1,[d12.2.2.2.2.1],())) none fun d13=>Za (Zfh (d12.2.2.2.2.2.2.2.2.2.2.2.2.2.2.1,[d12.2.2.2.2.1],())) none fun d14=>some ((d12.2.2.2.2.2.2.2.2.2.2.2.2.2.2.2.2.2.2.2.2.2.2.2.2.2.2.2.2.1,d12.2.2.2.2.2.2.2.2.2.2.2.2.2.2.2.2.2.2.2.2.2.2.2.2.2.2.2.2.2.1,d12.2.2.2.2.2.2.2.2.2.2.2.2.2.2.2.2.2.2.2.2.2.2.2.2.2.2.2.2.2.2.2.2.1,d12.2.2.2.2.2.2.2.2.2.2.2.2.2.2.2.2.2.2.2.2.2.2.2.2.2.2.2.2.2.2.2.2.2,d13,d14),(d12.2.2.2.2.2.2.2.2.2.2.2.2.2.2.2.2.2.2.2.2.2.2.2.2.1,[],[],[],d12.2.2.2.2.2.2.2.2.2.2.2.2.2.2.2.2.2.2.2.2.2.2.2.2.2.1,d12.2.2.2.2.2.2.2.2.2.2.2.2.2.2.2.2.2.2.2.2.2.2.2.2.2.2.1),d12.2.2.2.2.2.2.2.2.2.2.2.2.2.2.2.2.2.2.2.2.2.2.2.2.2.2.2.1,[],[]) else none else none else Za (KM (a2.2.2.2.2.1,a1.2.2.2.2.1,())) none fun d10=>
 bif d10 then some (((false,[],[],[],0,0):E),((false,[],[],[],0,0):E),[],[],[]) else bif decide (((List.length (α:=I) [])+List.length a2.2.2.1+1)*16≤lim) then bif decide (((List.length (α:=I) [])+List.length a2.2.2.2.1+1)*16≤lim) then Za (Zdk (a0,a3,0,a1.1,a1.2.1,a1.2.2.1,a1.2.2.2.1,a1.2.2.2.2.1,a1.2.2.2.2.2.1,a1.2.2.2.2.2.2.1,a1.2.2.2.2.2.2.2.1,a1.2.2.2.2.2.2.2.2,a2.1,a2.2.1,a2.2.2.1,a2.2.2.2.1,a2.2.2.2.2.1,a2.2.2.2.2.2,false,0,0,false,0,0,false,0,0,false,0,0,a2.1,a2.2.1,a2.2.2.2.2.1,a2.2.2.2.2.2,[]++a2.2.2.1,[]++a2.2.2.2.1)) none fun d11=>Za (Zdm (d11.1,d11.2.1,0,d11.2.2)) none fun d12=>Za (Zfh (d12.2.2.2.2.2.2.2.2.2.2.2.2.2.1,[d12.2.2.2.2.1],())) none fun d13=>Za (Zfh (d12.2.2.2.2.2.2.2.2.2.2.2.2.2.2.1,[d12.2.2.2.2.1],())) none fun d14=>some ((d12.2.2.2.2.2.2.2.2.2.2.2.2.2.2.2.2.2.2.2.2.2.2.2.2.2.2.2.1,d12.2.2.2.2.2.2.2.2.2.2.2.2.2.2.2.2.2.2.2.2.2.2.2.2.2.2.2.2.1,d12.2.2.2.2.2.2.2.2.2.2.2.2.2.2.2.2.2.2.2.2.2.2.2.2.2.2.2.2.2.2.2.1,d12.2.2.2.2.2.2.2.2.2.2.2.2.2.2.2.2.2.2.2.2.2.2.2.2.2.2.2.2.2.2.2.2,d13,d14),(d12.2.2.2.2.2.2.2.2.2.2.2.2.2.2.2.2.2.2.2.2.2.2.2.2.1,[],[],[],d12.2.2.2.2.2.2.2.2.2.2.2.2.2.2.2.2.2.2.2.2.2.2.2.2.2.1,d12.2.2.2.2.2.2.2.2.2.2.2.2.2.2.2.2.2.2.2.2.2.2.2.2.2.2.1),[],[],[]) else none else none
def Zjc (x:(Int×(A×(E×((List En)×Unit))))):Option O:=ZCS x.1 x.2.1 x.2.2.1 x.2.2.2.1
def gmap (l:List En) (t:Int) (ar:Bool) (must m:Int) (r:List I):List I:=r.mapIdx fun i d=>rJoin d (gainV l t ar i must m)
theorem Hg {s0:Int} {s0_1:Int} {s0_2:Int} {s0_3:Int} {s0_4:Int} {s0_5:Int} {s0_6:Int} {s0_7:Int} {s0_8:Int} {s0_9:(List Int)} {s0_10:(List Int)} {s0_11:Int} {s0_12:(List C)} {s0_13:Int} {s0_14:Int} {s0_15:Bool} {s0_16:(List I)} {s0_17:(List I)} {s0_18:(List I)} {s0_19:Int} {s0_20:Int} {s0_21:(List En)} {s0_22:Bool} {s0_23:(List I)} {s0_24:(List I)} {s0_25:(List I)} {s0_26:Int} {s0_27:Int} {s0_28:Bool} {s0_29:(List I)} {s0_30:(List I)} {s0_31:(List I)} {s0_32:Int} {s0_33:Int} {s0_34:(List Int)} {s0_35:(List En)} {s0_36:(List Ac)} {s2:Bool} {l:List I} (hh:0≤s0_19∧s0_19<2147483648) (he:∀ e∈s0_21,entOK e) (hn:s0_21.length<1000000000000) (hl:l.length<9223372036854775807):Vm (s0,s0_1,s0_2,s0_3,s0_4,s0_5,s0_6,s0_7,s0_8,s0_9,s0_10,s0_11,s0_12,s0_13,s0_14,s0_15,s0_16,s0_17,s0_18,s0_19,s0_20,s0_21,s0_22,s0_23,s0_24,s0_25,s0_26,s0_27,s0_28,s0_29,s0_30,s0_31,s0_32,s0_33,s0_34,s0_35,s0_36,s2,(l.length:Int),0,l)=some (gmap s0_21 s0_13 s2 s0_19 s0_4 l):=by
 unfold Vm
 refine Zlh (fun i r=>((s0,s0_1,s0_2,s0_3,s0_4,s0_5,s0_6,s0_7,s0_8,s0_9,s0_10,s0_11,s0_12,s0_13,s0_14,s0_15,s0_16,s0_17,s0_18,s0_19,s0_20,s0_21,s0_22,s0_23,s0_24,s0_25,s0_26,s0_27,s0_28,s0_29,s0_30,s0_31,s0_32,s0_33,s0_34,s0_35,s0_36,s2,(l.length:Int),(i:Int),r):(Int×Int×Int×Int×Int×Int×Int×Int×Int×(List Int)×(List Int)×Int×(List C)×Int×Int×Bool×(List I)×(List I)×(List I)×Int×Int×(List En)×Bool×(List I)×(List I)×(List I)×Int×Int×Bool×(List I)×(List I)×(List I)×Int×Int×(List Int)×(List En)×(List Ac)×Bool×Int×Int×(List I)))) (fun i d=>rJoin d (gainV s0_21 s0_13 s2 i s0_19 s0_4)) (fun r=>(r:(List I))) l ?_ ?_ hl
 ·intro i d r hi hr hd
  have hj:i<l.length:=(List.getElem?_eq_some_iff.1 hi).1
  have e1:decide ((i:Int)<(l.length:Int))=true:=dT0 (by omega)
  have e2:decide (0≤(i:Int))=true:=dT0 (by omega)
  have e3:Int.toNat (i:Int)=i:=tN0 i
  have e4:=Zu hj (Nat.le_of_lt hl)
  show JU (s0) (s0_1) (s0_2) (s0_3) (s0_4) (s0_5) (s0_6) (s0_7) (s0_8) (s0_9) (s0_10) (s0_11) (s0_12) (s0_13) (s0_14) (s0_15) (s0_16) (s0_17) (s0_18) (s0_19) (s0_20) (s0_21) (s0_22) (s0_23) (s0_24) (s0_25) (s0_26) (s0_27) (s0_28) (s0_29) (s0_30) (s0_31) (s0_32) (s0_33) (s0_34) (s0_35) (s0_36) (s2) ((l.length:Int)) ((i:Int)) (r)=_
  unfold JU ZlV ZM
  simp only [e1,e2,e3,e4,hd,cond_true,Zc,ZNZ _ _ _ _ _ _ hh he (by omega),Vo,Zav (Zoc he)]
 ·intro r hr
  have e1:decide ((l.length:Int)<(l.length:Int))=false:=dF0 (by omega)
  show JU (s0) (s0_1) (s0_2) (s0_3) (s0_4) (s0_5) (s0_6) (s0_7) (s0_8) (s0_9) (s0_10) (s0_11) (s0_12) (s0_13) (s0_14) (s0_15) (s0_16) (s0_17) (s0_18) (s0_19) (s0_20) (s0_21) (s0_22) (s0_23) (s0_24) (s0_25) (s0_26) (s0_27) (s0_28) (s0_29) (s0_30) (s0_31) (s0_32) (s0_33) (s0_34) (s0_35) (s0_36) (s2) ((l.length:Int)) ((l.length:Int)) (r)=_
  unfold JU
  rw [e1]
  rfl
theorem ZyR {s0:Int} {s3:(List En)} {b0:Int} {b0_1:Int} {b0_2:Int} {b0_3:Int} {b0_4:Int} {b0_5:Int} {b0_6:Int} {b0_7:Int} {b0_8:Int} {b1:Bool} {b1_1:(List I)} {b1_2:(List I)} {b1_3:(List I)} {b1_4:Int} {b1_5:Int} {b2:Bool} {b2_1:Int} {b2_2:Int} {b2_3:Bool} {b2_4:Int} {b2_5:Int} {b3:Bool} {b3_1:Int} {b3_2:Int} {b3_3:Bool} {b3_4:Int} {b3_5:Int} {b4:Bool} {b4_1:(List I)} {b4_2:Int} {b4_3:Int} {b6:(List I)} {l:List I} (hh:0≤b1_4∧b1_4<2147483648) (he:∀ e∈s3,entOK e) (hn:s3.length<1000000000000) (hl:l.length<9223372036854775807):Zdk (s0,s3,0,b0,b0_1,b0_2,b0_3,b0_4,b0_5,b0_6,b0_7,b0_8,b1,b1_1,b1_2,b1_3,b1_4,b1_5,b2,b2_1,b2_2,b2_3,b2_4,b2_5,b3,b3_1,b3_2,b3_3,b3_4,b3_5,b4,b4_1,b4_2,b4_3,l,b6)=some (s0,s3,b0,b0_1,b0_2,b0_3,b0_4,b0_5,b0_6,b0_7,b0_8,b1,b1_1,b1_2,b1_3,b1_4,b1_5,b2,b2_1,b2_2,b2_3,b2_4,b2_5,b3,b3_1,b3_2,b3_3,b3_4,b3_5,b4,b4_1,b4_2,b4_3,(gmap s3 s0 Bool.false b1_4 b0_4 l),b6):=by
 unfold Zdk
 refine Zlh (fun i r=>((s0,s3,(i:Int),b0,b0_1,b0_2,b0_3,b0_4,b0_5,b0_6,b0_7,b0_8,b1,b1_1,b1_2,b1_3,b1_4,b1_5,b2,b2_1,b2_2,b2_3,b2_4,b2_5,b3,b3_1,b3_2,b3_3,b3_4,b3_5,b4,b4_1,b4_2,b4_3,r,b6):(Int×(List En)×Int×Int×Int×Int×Int×Int×Int×Int×Int×Int×Bool×(List I)×(List I)×(List I)×Int×Int×Bool×Int×Int×Bool×Int×Int×Bool×Int×Int×Bool×Int×Int×Bool×(List I)×Int×Int×(List I)×(List I)))) (fun i d=>rJoin d (gainV s3 s0 Bool.false i b1_4 b0_4)) (fun r=>((s0,s3,b0,b0_1,b0_2,b0_3,b0_4,b0_5,b0_6,b0_7,b0_8,b1,b1_1,b1_2,b1_3,b1_4,b1_5,b2,b2_1,b2_2,b2_3,b2_4,b2_5,b3,b3_1,b3_2,b3_3,b3_4,b3_5,b4,b4_1,b4_2,b4_3,r,b6):(Int×(List En)×Int×Int×Int×Int×Int×Int×Int×Int×Int×Bool×(List I)×(List I)×(List I)×Int×Int×Bool×Int×Int×Bool×Int×Int×Bool×Int×Int×Bool×Int×Int×Bool×(List I)×Int×Int×(List I)×(List I)))) l ?_ ?_ hl
 ·intro i d r hi hr hd
  have hj:i<l.length:=(List.getElem?_eq_some_iff.1 hi).1
  have e1:decide ((i:Int)<(r.length:Int))=true:=dT0 (by omega)
  have e2:decide (0≤(i:Int))=true:=dT0 (by omega)
  have e3:Int.toNat (i:Int)=i:=tN0 i
  have e4:=Zu hj (Nat.le_of_lt hl)
  show VP (s0) (s3) ((i:Int)) (b0) (b0_1) (b0_2) (b0_3) (b0_4) (b0_5) (b0_6) (b0_7) (b0_8) (b1) (b1_1) (b1_2) (b1_3) (b1_4) (b1_5) (b2) (b2_1) (b2_2) (b2_3) (b2_4) (b2_5) (b3) (b3_1) (b3_2) (b3_3) (b3_4) (b3_5) (b4) (b4_1) (b4_2) (b4_3) (r) (b6)=_
  unfold VP JV ZH
  simp only [e1,e2,e3,e4,hd,cond_true,Zc,ZjZ _ _ _ _ _ _ hh he hn,KK,Zav (Zoc he)]
 ·intro r hr
  have e1:decide ((l.length:Int)<(r.length:Int))=false:=dF0 (by omega)
  show VP (s0) (s3) ((l.length:Int)) (b0) (b0_1) (b0_2) (b0_3) (b0_4) (b0_5) (b0_6) (b0_7) (b0_8) (b1) (b1_1) (b1_2) (b1_3) (b1_4) (b1_5) (b2) (b2_1) (b2_2) (b2_3) (b2_4) (b2_5) (b3) (b3_1) (b3_2) (b3_3) (b3_4) (b3_5) (b4) (b4_1) (b4_2) (b4_3) (r) (b6)=_
  unfold VP
  rw [e1]
  rfl
theorem ZyS {s0:Int} {s3:(List En)} {b0:Int} {b0_1:Int} {b0_2:Int} {b0_3:Int} {b0_4:Int} {b0_5:Int} {b0_6:Int} {b0_7:Int} {b0_8:Int} {b1:Bool} {b1_1:(List I)} {b1_2:(List I)} {b1_3:(List I)} {b1_4:Int} {b1_5:Int} {b2:Bool} {b2_1:Int} {b2_2:Int} {b2_3:Bool} {b2_4:Int} {b2_5:Int} {b3:Bool} {b3_1:Int} {b3_2:Int} {b3_3:Bool} {b3_4:Int} {b3_5:Int} {b4:(List Int)} {b5:Bool} {b5_1:(List I)} {b5_2:Int} {b5_3:Int} {b7:(List I)} {l:List I} (hh:0≤b1_4∧b1_4<2147483648) (he:∀ e∈s3,entOK e) (hn:s3.length<1000000000000) (hl:l.length<9223372036854775807):Zdl (s0,s3,0,b0,b0_1,b0_2,b0_3,b0_4,b0_5,b0_6,b0_7,b0_8,b1,b1_1,b1_2,b1_3,b1_4,b1_5,b2,b2_1,b2_2,b2_3,b2_4,b2_5,b3,b3_1,b3_2,b3_3,b3_4,b3_5,b4,b5,b5_1,b5_2,b5_3,l,b7)=some (s0,s3,b0,b0_1,b0_2,b0_3,b0_4,b0_5,b0_6,b0_7,b0_8,b1,b1_1,b1_2,b1_3,b1_4,b1_5,b2,b2_1,b2_2,b2_3,b2_4,b2_5,b3,b3_1,b3_2,b3_3,b3_4,b3_5,b4,b5,b5_1,b5_2,b5_3,(gmap s3 s0 Bool.false b1_4 b0_4 l),b7):=by
 unfold Zdl
 refine Zlh (fun i r=>((s0,s3,(i:Int),b0,b0_1,b0_2,b0_3,b0_4,b0_5,b0_6,b0_7,b0_8,b1,b1_1,b1_2,b1_3,b1_4,b1_5,b2,b2_1,b2_2,b2_3,b2_4,b2_5,b3,b3_1,b3_2,b3_3,b3_4,b3_5,b4,b5,b5_1,b5_2,b5_3,r,b7):(Int×(List En)×Int×Int×Int×Int×Int×Int×Int×Int×Int×Int×Bool×(List I)×(List I)×(List I)×Int×Int×Bool×Int×Int×Bool×Int×Int×Bool×Int×Int×Bool×Int×Int×(List Int)×Bool×(List I)×Int×Int×(List I)×(List I)))) (fun i d=>rJoin d (gainV s3 s0 Bool.false i b1_4 b0_4)) (fun r=>((s0,s3,b0,b0_1,b0_2,b0_3,b0_4,b0_5,b0_6,b0_7,b0_8,b1,b1_1,b1_2,b1_3,b1_4,b1_5,b2,b2_1,b2_2,b2_3,b2_4,b2_5,b3,b3_1,b3_2,b3_3,b3_4,b3_5,b4,b5,b5_1,b5_2,b5_3,r,b7):(Int×(List En)×Int×Int×Int×Int×Int×Int×Int×Int×Int×Bool×(List I)×(List I)×(List I)×Int×Int×Bool×Int×Int×Bool×Int×Int×Bool×Int×Int×Bool×Int×Int×(List Int)×Bool×(List I)×Int×Int×(List I)×(List I)))) l ?_ ?_ hl
 ·intro i d r hi hr hd
  have hj:i<l.length:=(List.getElem?_eq_some_iff.1 hi).1
  have e1:decide ((i:Int)<(r.length:Int))=true:=dT0 (by omega)
  have e2:decide (0≤(i:Int))=true:=dT0 (by omega)
  have e3:Int.toNat (i:Int)=i:=tN0 i
  have e4:=Zu hj (Nat.le_of_lt hl)
  show VQ (s0) (s3) ((i:Int)) (b0) (b0_1) (b0_2) (b0_3) (b0_4) (b0_5) (b0_6) (b0_7) (b0_8) (b1) (b1_1) (b1_2) (b1_3) (b1_4) (b1_5) (b2) (b2_1) (b2_2) (b2_3) (b2_4) (b2_5) (b3) (b3_1) (b3_2) (b3_3) (b3_4) (b3_5) (b4) (b5) (b5_1) (b5_2) (b5_3) (r) (b7)=_
  unfold VQ JV ZH
  simp only [e1,e2,e3,e4,hd,cond_true,Zc,ZjZ _ _ _ _ _ _ hh he hn,KK,Zav (Zoc he)]
 ·intro r hr
  have e1:decide ((l.length:Int)<(r.length:Int))=false:=dF0 (by omega)
  show VQ (s0) (s3) ((l.length:Int)) (b0) (b0_1) (b0_2) (b0_3) (b0_4) (b0_5) (b0_6) (b0_7) (b0_8) (b1) (b1_1) (b1_2) (b1_3) (b1_4) (b1_5) (b2) (b2_1) (b2_2) (b2_3) (b2_4) (b2_5) (b3) (b3_1) (b3_2) (b3_3) (b3_4) (b3_5) (b4) (b5) (b5_1) (b5_2) (b5_3) (r) (b7)=_
  unfold VQ
  rw [e1]
  rfl
theorem ZyT {s0:Int} {s3:(List En)} {b0:Int} {b0_1:Int} {b0_2:Int} {b0_3:Int} {b0_4:Int} {b0_5:Int} {b0_6:Int} {b0_7:Int} {b0_8:Int} {b1:Bool} {b1_1:(List I)} {b1_2:(List I)} {b1_3:(List I)} {b1_4:Int} {b1_5:Int} {b2:Bool} {b2_1:Int} {b2_2:Int} {b2_3:Bool} {b2_4:Int} {b2_5:Int} {b3:Bool} {b3_1:Int} {b3_2:Int} {b3_3:Bool} {b3_4:Int} {b3_5:Int} {b4:Bool} {b4_1:(List I)} {b4_2:Int} {b4_3:Int} {b5:(List I)} {l:List I} (hh:0≤b1_4∧b1_4<2147483648) (he:∀ e∈s3,entOK e) (hn:s3.length<1000000000000) (hl:l.length<9223372036854775807):Zdm (s0,s3,0,b0,b0_1,b0_2,b0_3,b0_4,b0_5,b0_6,b0_7,b0_8,b1,b1_1,b1_2,b1_3,b1_4,b1_5,b2,b2_1,b2_2,b2_3,b2_4,b2_5,b3,b3_1,b3_2,b3_3,b3_4,b3_5,b4,b4_1,b4_2,b4_3,b5,l)=some (b0,b0_1,b0_2,b0_3,b0_4,b0_5,b0_6,b0_7,b0_8,b1,b1_1,b1_2,b1_3,b1_4,b1_5,b2,b2_1,b2_2,b2_3,b2_4,b2_5,b3,b3_1,b3_2,b3_3,b3_4,b3_5,b4,b4_1,b4_2,b4_3,b5,(gmap s3 s0 Bool.true b1_4 b0_4 l)):=by
 unfold Zdm
 refine Zlh (fun i r=>((s0,s3,(i:Int),b0,b0_1,b0_2,b0_3,b0_4,b0_5,b0_6,b0_7,b0_8,b1,b1_1,b1_2,b1_3,b1_4,b1_5,b2,b2_1,b2_2,b2_3,b2_4,b2_5,b3,b3_1,b3_2,b3_3,b3_4,b3_5,b4,b4_1,b4_2,b4_3,b5,r):(Int×(List En)×Int×Int×Int×Int×Int×Int×Int×Int×Int×Int×Bool×(List I)×(List I)×(List I)×Int×Int×Bool×Int×Int×Bool×Int×Int×Bool×Int×Int×Bool×Int×Int×Bool×(List I)×Int×Int×(List I)×(List I)))) (fun i d=>rJoin d (gainV s3 s0 Bool.true i b1_4 b0_4)) (fun r=>((b0,b0_1,b0_2,b0_3,b0_4,b0_5,b0_6,b0_7,b0_8,b1,b1_1,b1_2,b1_3,b1_4,b1_5,b2,b2_1,b2_2,b2_3,b2_4,b2_5,b3,b3_1,b3_2,b3_3,b3_4,b3_5,b4,b4_1,b4_2,b4_3,b5,r):(Int×Int×Int×Int×Int×Int×Int×Int×Int×Bool×(List I)×(List I)×(List I)×Int×Int×Bool×Int×Int×Bool×Int×Int×Bool×Int×Int×Bool×Int×Int×Bool×(List I)×Int×Int×(List I)×(List I)))) l ?_ ?_ hl
 ·intro i d r hi hr hd
  have hj:i<l.length:=(List.getElem?_eq_some_iff.1 hi).1
  have e1:decide ((i:Int)<(r.length:Int))=true:=dT0 (by omega)
  have e2:decide (0≤(i:Int))=true:=dT0 (by omega)
  have e3:Int.toNat (i:Int)=i:=tN0 i
  have e4:=Zu hj (Nat.le_of_lt hl)
  show VR (s0) (s3) ((i:Int)) (b0) (b0_1) (b0_2) (b0_3) (b0_4) (b0_5) (b0_6) (b0_7) (b0_8) (b1) (b1_1) (b1_2) (b1_3) (b1_4) (b1_5) (b2) (b2_1) (b2_2) (b2_3) (b2_4) (b2_5) (b3) (b3_1) (b3_2) (b3_3) (b3_4) (b3_5) (b4) (b4_1) (b4_2) (b4_3) (b5) (r)=_
  unfold VR JV ZH
  simp only [e1,e2,e3,e4,hd,cond_true,Zc,ZjZ _ _ _ _ _ _ hh he hn,KK,Zav (Zoc he)]
 ·intro r hr
  have e1:decide ((l.length:Int)<(r.length:Int))=false:=dF0 (by omega)
  show VR (s0) (s3) ((l.length:Int)) (b0) (b0_1) (b0_2) (b0_3) (b0_4) (b0_5) (b0_6) (b0_7) (b0_8) (b1) (b1_1) (b1_2) (b1_3) (b1_4) (b1_5) (b2) (b2_1) (b2_2) (b2_3) (b2_4) (b2_5) (b3) (b3_1) (b3_2) (b3_3) (b3_4) (b3_5) (b4) (b4_1) (b4_2) (b4_3) (b5) (r)=_
  unfold VR
  rw [e1]
  rfl
theorem ZyU {s0:Int} {s3:(List En)} {b0:Int} {b0_1:Int} {b0_2:Int} {b0_3:Int} {b0_4:Int} {b0_5:Int} {b0_6:Int} {b0_7:Int} {b0_8:Int} {b1:Bool} {b1_1:(List I)} {b1_2:(List I)} {b1_3:(List I)} {b1_4:Int} {b1_5:Int} {b2:Bool} {b2_1:Int} {b2_2:Int} {b2_3:Bool} {b2_4:Int} {b2_5:Int} {b3:Bool} {b3_1:Int} {b3_2:Int} {b3_3:Bool} {b3_4:Int} {b3_5:Int} {b4:(List Int)} {b5:Bool} {b5_1:(List I)} {b5_2:Int} {b5_3:Int} {b6:(List I)} {l:List I} (hh:0≤b1_4∧b1_4<2147483648) (he:∀ e∈s3,entOK e) (hn:s3.length<1000000000000) (hl:l.length<9223372036854775807):Zdn (s0,s3,0,b0,b0_1,b0_2,b0_3,b0_4,b0_5,b0_6,b0_7,b0_8,b1,b1_1,b1_2,b1_3,b1_4,b1_5,b2,b2_1,b2_2,b2_3,b2_4,b2_5,b3,b3_1,b3_2,b3_3,b3_4,b3_5,b4,b5,b5_1,b5_2,b5_3,b6,l)=some (b0,b0_1,b0_2,b0_3,b0_4,b0_5,b0_6,b0_7,b0_8,b1,b1_1,b1_2,b1_3,b1_4,b1_5,b2,b2_1,b2_2,b2_3,b2_4,b2_5,b3,b3_1,b3_2,b3_3,b3_4,b3_5,b4,b5,b5_1,b5_2,b5_3,b6,(gmap s3 s0 Bool.true b1_4 b0_4 l)):=by
 unfold Zdn
 refine Zlh (fun i r=>((s0,s3,(i:Int),b0,b0_1,b0_2,b0_3,b0_4,b0_5,b0_6,b0_7,b0_8,b1,b1_1,b1_2,b1_3,b1_4,b1_5,b2,b2_1,b2_2,b2_3,b2_4,b2_5,b3,b3_1,b3_2,b3_3,b3_4,b3_5,b4,b5,b5_1,b5_2,b5_3,b6,r):(Int×(List En)×Int×Int×Int×Int×Int×Int×Int×Int×Int×Int×Bool×(List I)×(List I)×(List I)×Int×Int×Bool×Int×Int×Bool×Int×Int×Bool×Int×Int×Bool×Int×Int×(List Int)×Bool×(List I)×Int×Int×(List I)×(List I)))) (fun i d=>rJoin d (gainV s3 s0 Bool.true i b1_4 b0_4)) (fun r=>((b0,b0_1,b0_2,b0_3,b0_4,b0_5,b0_6,b0_7,b0_8,b1,b1_1,b1_2,b1_3,b1_4,b1_5,b2,b2_1,b2_2,b2_3,b2_4,b2_5,b3,b3_1,b3_2,b3_3,b3_4,b3_5,b4,b5,b5_1,b5_2,b5_3,b6,r):(Int×Int×Int×Int×Int×Int×Int×Int×Int×Bool×(List I)×(List I)×(List I)×Int×Int×Bool×Int×Int×Bool×Int×Int×Bool×Int×Int×Bool×Int×Int×(List Int)×Bool×(List I)×Int×Int×(List I)×(List I)))) l ?_ ?_ hl
 ·intro i d r hi hr hd
  have hj:i<l.length:=(List.getElem?_eq_some_iff.1 hi).1
  have e1:decide ((i:Int)<(r.length:Int))=true:=dT0 (by omega)
  have e2:decide (0≤(i:Int))=true:=dT0 (by omega)
  have e3:Int.toNat (i:Int)=i:=tN0 i
  have e4:=Zu hj (Nat.le_of_lt hl)
  show VS (s0) (s3) ((i:Int)) (b0) (b0_1) (b0_2) (b0_3) (b0_4) (b0_5) (b0_6) (b0_7) (b0_8) (b1) (b1_1) (b1_2) (b1_3) (b1_4) (b1_5) (b2) (b2_1) (b2_2) (b2_3) (b2_4) (b2_5) (b3) (b3_1) (b3_2) (b3_3) (b3_4) (b3_5) (b4) (b5) (b5_1) (b5_2) (b5_3) (b6) (r)=_
  unfold VS JV ZH
  simp only [e1,e2,e3,e4,hd,cond_true,Zc,ZjZ _ _ _ _ _ _ hh he hn,KK,Zav (Zoc he)]
 ·intro r hr
  have e1:decide ((l.length:Int)<(r.length:Int))=false:=dF0 (by omega)
  show VS (s0) (s3) ((l.length:Int)) (b0) (b0_1) (b0_2) (b0_3) (b0_4) (b0_5) (b0_6) (b0_7) (b0_8) (b1) (b1_1) (b1_2) (b1_3) (b1_4) (b1_5) (b2) (b2_1) (b2_2) (b2_3) (b2_4) (b2_5) (b3) (b3_1) (b3_2) (b3_3) (b3_4) (b3_5) (b4) (b5) (b5_1) (b5_2) (b5_3) (b6) (r)=_
  unfold VS
  rw [e1]
  rfl
def ZO9:List Sh:=[.dat (.int .i64)]
def ZR1:List Con:=[]
def Zo4 (a0:Int):Option Int:=bif a0==1 then some 5 else bif a0==2 then some 6 else bif a0==3 then some 4 else bif a0==4 then some 3 else bif a0==5 then some 1 else bif a0==6 then some 2 else some a0
def QR (x:Int×Unit):Option Int:=Zo4 x.1
def ZFw:=conP true ZO9 (.dat (.int .i64)) QR
theorem ZPF:Zg Tryz.prog 139 ZFw:=Ze (calU ZR1 [] 40 1048576 8 139) true (by rfl) (by rfl) (fun x r e=>(Zk _ _ _ _ _ _ _).trans ((show _=QR x by kernel_rfl).trans e)) (.inl rfl)
def ZMB:List Sh:=[.dat tU,.dat (.int .i64)]
def ZPI:List Con:=[]
def Zml (a0:U) (a1:Int):Option E:=some ((false,[],[],[],0,0):E)
def ZjQ (x:U×(Int×Unit)):Option E:=Zml x.1 x.2.1
def ZrO:=conP true ZMB (.dat tE) ZjQ
theorem ZDK:Zg Tryz.prog 77 ZrO:=Ze (calU ZPI [] 40 1048576 8 77) true (by rfl) (by rfl) (fun x r e=>(Zk _ _ _ _ _ _ _).trans ((show _=ZjQ x by kernel_rfl).trans e)) (.inl rfl)
def ZO6:List Sh:=[.dat tU,.dat (.int .i64),.dat (.int .i64),.dat tE,.dat (.sl tEn)]
def ZRY:List Con:=[⟨79,ZxW,ZIi⟩,⟨130,ZoF,Zvx⟩,⟨133,ZAh,ZLS⟩,⟨139,ZFw,ZPF⟩,⟨179,ZvN,ZJR⟩,⟨174,Zji,ZmM⟩,⟨153,JR,KL⟩,⟨77,ZrO,ZDK⟩,⟨173,Zco,ZhR⟩,⟨175,Zl0,ZsS⟩,⟨178,ZrQ,ZG0⟩,⟨176,Znj,ZBY⟩,⟨177,ZAj,ZLU⟩,⟨126,ZkA,ZoQ⟩,⟨111,YQ,VH⟩,⟨170,ZHw,ZRV⟩]
def bF (u:U) (t n:Int) (e:E) (l:List En) (c:C) (a:A):Option O:=bif a.1==1 then Za (ZkZ ([a.2.2.2.2.2.1],())) (none) fun d8=>bif decide (((List.length (α:=I) [])+List.length e.2.1+1)*16≤lim) then bif decide (0≤a.2.1) then Za ([]++e.2.1)[Int.toNat a.2.1]? (none) fun d9=>Za ([]++e.2.1)[Int.toNat a.2.1]? (none) fun d10=>some ((e.1,([]++e.2.1).set (Int.toNat a.2.1) d8,e.2.2.1,e.2.2.2.1,e.2.2.2.2.1,e.2.2.2.2.2),(false,[],[],[],0,0),[],[],[]) else none else none else bif a.1==2 then bif decide (0≤a.2.2.1) then Za e.2.1[Int.toNat a.2.2.1]? (none) fun d8=>bif decide (((List.length (α:=I) [])+List.length e.2.1+1)*16≤lim) then bif decide (0≤a.2.1) then Za ([]++e.2.1)[Int.toNat a.2.1]? (none) fun d9=>Za ([]++e.2.1)[Int.toNat a.2.1]? (none) fun d10=>some ((e.1,([]++e.2.1).set (Int.toNat a.2.1) d8,e.2.2.1,e.2.2.2.1,e.2.2.2.2.1,e.2.2.2.2.2),(false,[],[],[],0,0),[],[],[]) else none else none else none else bif a.1==3 then bif decide (((List.length (α:=I) [])+List.length e.2.1+1)*16≤lim) then bif decide (0≤a.2.1) then Za ([]++e.2.1)[Int.toNat a.2.1]? (none) fun d8=>Za ([]++e.2.1)[Int.toNat a.2.1]? (none) fun d9=>some ((e.1,([]++e.2.1).set (Int.toNat a.2.1) (-2147483648,2147483647),e.2.2.1,e.2.2.2.1,e.2.2.2.2.1,e.2.2.2.2.2),(false,[],[],[],0,0),[],[],[]) else none else none else bif a.1==4 then bif decide (0≤a.2.2.1) then Za e.2.1[Int.toNat a.2.2.1]? (none) fun d8=>bif decide (0≤a.2.2.2.1) then Za e.2.1[Int.toNat a.2.2.2.1]? (none) fun d9=>Za (ZnP (a.2.2.2.2.2.2.1,d8,d9,())) (none) fun d10=>bif d10.2.1 then bif d10.2.2.1 then bif !decide (d10.1.1>d10.1.2) then
 bif decide (((List.length (α:=I) [])+List.length e.2.1+1)*16≤lim) then bif decide (0≤a.2.1) then Za ([]++e.2.1)[Int.toNat a.2.1]? (none) fun d11=>Za ([]++e.2.1)[Int.toNat a.2.1]? (none) fun d12=>some ((e.1,([]++e.2.1).set (Int.toNat a.2.1) d10.1,e.2.2.1,e.2.2.2.1,e.2.2.2.2.1,e.2.2.2.2.2),(false,[],[],[],0,0),[7,8],[],[]) else none else none else some ((false,[],[],[],0,0),(false,[],[],[],0,0),[7,8],[],[]) else bif !decide (d10.1.1>d10.1.2) then bif decide (((List.length (α:=I) [])+List.length e.2.1+1)*16≤lim) then bif decide (0≤a.2.1) then Za ([]++e.2.1)[Int.toNat a.2.1]? (none) fun d11=>Za ([]++e.2.1)[Int.toNat a.2.1]? (none) fun d12=>some ((e.1,([]++e.2.1).set (Int.toNat a.2.1) d10.1,e.2.2.1,e.2.2.2.1,e.2.2.2.2.1,e.2.2.2.2.2),(false,[],[],[],0,0),[7],[],[]) else none else none else some ((false,[],[],[],0,0),(false,[],[],[],0,0),[7],[],[]) else bif d10.2.2.1 then bif !decide (d10.1.1>d10.1.2) then bif decide (((List.length (α:=I) [])+List.length e.2.1+1)*16≤lim) then bif decide (0≤a.2.1) then Za ([]++e.2.1)[Int.toNat a.2.1]? (none) fun d11=>Za ([]++e.2.1)[Int.toNat a.2.1]? (none) fun d12=>some ((e.1,([]++e.2.1).set (Int.toNat a.2.1) d10.1,e.2.2.1,e.2.2.2.1,e.2.2.2.2.1,e.2.2.2.2.2),(false,[],[],[],0,0),[8],[],[]) else none else none else some ((false,[],[],[],0,0),(false,[],[],[],0,0),[8],[],[]) else bif !decide (d10.1.1>d10.1.2) then bif decide (((List.length (α:=I) [])+List.length e.2.1+1)*16≤lim) then bif decide (0≤a.2.1) then Za ([]++e.2.1)[Int.toNat a.2.1]? (none) fun d11=>Za ([]++e.2.1)[Int.toNat a.2.1]? (none) fun d12=>
 some ((e.1,([]++e.2.1).set (Int.toNat a.2.1) d10.1,e.2.2.1,e.2.2.2.1,e.2.2.2.2.1,e.2.2.2.2.2),(false,[],[],[],0,0),[],[],[]) else none else none else some ((false,[],[],[],0,0),(false,[],[],[],0,0),[],[],[]) else none else none else bif a.1==5 then Za (Qb (u,t,e,l,false,a.2.2.2.2.1,())) (none) fun d8=>bif decide (((List.length (α:=I) [])+List.length e.2.1+1)*16≤lim) then bif decide (0≤a.2.1) then Za ([]++e.2.1)[Int.toNat a.2.1]? (none) fun d9=>Za ([]++e.2.1)[Int.toNat a.2.1]? (none) fun d10=>some ((e.1,([]++e.2.1).set (Int.toNat a.2.1) d8,e.2.2.1,e.2.2.2.1,e.2.2.2.2.1,e.2.2.2.2.2),(false,[],[],[],0,0),[],[],[(t,n,false,a.2.2.2.2.1,false,e.2.2.2.2.1)]) else none else none else bif a.1==6 then bif decide (0≤a.2.2.1) then Za e.2.1[Int.toNat a.2.2.1]? (none) fun d8=>bif decide (((List.length (α:=I) [])+List.length e.2.2.1+1)*16≤lim) then bif decide (0≤a.2.2.2.2.1) then Za ([]++e.2.2.1)[Int.toNat a.2.2.2.2.1]? (none) fun d9=>Za ([]++e.2.2.1)[Int.toNat a.2.2.2.2.1]? (none) fun d10=>some ((e.1,e.2.1,([]++e.2.2.1).set (Int.toNat a.2.2.2.2.1) d8,e.2.2.2.1,e.2.2.2.2.1,e.2.2.2.2.2),(false,[],[],[],0,0),[],[(t,false,a.2.2.2.2.1,e.2.2.2.2.1,d8.1,d8.2)],[(t,n,false,a.2.2.2.2.1,true,e.2.2.2.2.1)]) else none else none else none else bif a.1==7 then bif decide (0≤a.2.2.2.2.1) then Za u.2.1[Int.toNat a.2.2.2.2.1]? (none) fun d8=>bif decide (0≤a.2.2.1) then Za e.2.1[Int.toNat a.2.2.1]? (none) fun d9=>Za (Qp (d9,(0,IntKind.i64.wrap (d8 - 1)),())) (none) fun d10=>bif !d10 then bif a.1==8 then bif decide (0≤a.2.2.2.1) then Za e.2.1[Int.toNat a.2.2.2.1]? (none) fun d11=>
 Za (ZC (d9,(0,IntKind.i64.wrap (d8 - 1)),())) (none) fun d12=>bif decide (d12.1>d12.2) then some ((false,[],[],[],0,0),(false,[],[],[],0,0),[9],[(t,true,a.2.2.2.2.1,e.2.2.2.2.1,d11.1,d11.2)],[(t,n,true,a.2.2.2.2.1,a.1==8,e.2.2.2.2.1)]) else bif decide (((List.length (α:=I) [])+List.length e.2.1+1)*16≤lim) then bif decide (0≤a.2.2.1) then Za ([]++e.2.1)[Int.toNat a.2.2.1]? (none) fun d13=>Za ([]++e.2.1)[Int.toNat a.2.2.1]? (none) fun d14=>bif !a.1==8 then Za (Qb (u,t,(e.1,([]++e.2.1).set (Int.toNat a.2.2.1) d12,e.2.2),l,true,a.2.2.2.2.1,())) (none) fun d15=>bif decide (((List.length (α:=I) [])+(([]++e.2.1).set (Int.toNat a.2.2.1) d12).length+1)*16≤lim) then bif decide (0≤a.2.1) then Za ([]++([]++e.2.1).set (Int.toNat a.2.2.1) d12)[Int.toNat a.2.1]? (none) fun d16=>Za ([]++([]++e.2.1).set (Int.toNat a.2.2.1) d12)[Int.toNat a.2.1]? (none) fun d17=>some ((e.1,([]++([]++e.2.1).set (Int.toNat a.2.2.1) d12).set (Int.toNat a.2.1) d15,e.2.2.1,e.2.2.2.1,e.2.2.2.2.1,e.2.2.2.2.2),(false,[],[],[],0,0),[9],[(t,true,a.2.2.2.2.1,e.2.2.2.2.1,d11.1,d11.2)],[(t,n,true,a.2.2.2.2.1,a.1==8,e.2.2.2.2.1)]) else none else none else bif decide (((List.length (α:=I) [])+List.length e.2.2.2.1+1)*16≤lim) then bif decide (0≤a.2.2.2.2.1) then Za ([]++e.2.2.2.1)[Int.toNat a.2.2.2.2.1]? (none) fun d15=>Za ([]++e.2.2.2.1)[Int.toNat a.2.2.2.2.1]? (none) fun d16=>bif decide (0≤a.2.2.2.1) then Za (([]++e.2.1).set (Int.toNat a.2.2.1) d12)[Int.toNat a.2.2.2.1]? (none) fun d17=>Za (([]++e.2.1).set (Int.toNat a.2.2.1) d12)[Int.toNat a.2.2.2.1]? (none) fun d18=>Za (ZM ([d16,d18],())) (none) fun d19=>
 bif decide (0≤a.2.2.2.2.1) then Za ([]++e.2.2.2.1)[Int.toNat a.2.2.2.2.1]? (none) fun d20=>Za ([]++e.2.2.2.1)[Int.toNat a.2.2.2.2.1]? (none) fun d21=>some ((e.1,([]++e.2.1).set (Int.toNat a.2.2.1) d12,e.2.2.1,([]++e.2.2.2.1).set (Int.toNat a.2.2.2.2.1) d19,e.2.2.2.2.1,e.2.2.2.2.2),(false,[],[],[],0,0),[9],[(t,true,a.2.2.2.2.1,e.2.2.2.2.1,d11.1,d11.2)],[(t,n,true,a.2.2.2.2.1,a.1==8,e.2.2.2.2.1)]) else none else none else none else none else none else none else none else Za (ZC (d9,(0,IntKind.i64.wrap (d8 - 1)),())) (none) fun d11=>bif decide (d11.1>d11.2) then some ((false,[],[],[],0,0),(false,[],[],[],0,0),[9],[],[(t,n,true,a.2.2.2.2.1,a.1==8,e.2.2.2.2.1)]) else bif decide (((List.length (α:=I) [])+List.length e.2.1+1)*16≤lim) then bif decide (0≤a.2.2.1) then Za ([]++e.2.1)[Int.toNat a.2.2.1]? (none) fun d12=>Za ([]++e.2.1)[Int.toNat a.2.2.1]? (none) fun d13=>bif !a.1==8 then Za (Qb (u,t,(e.1,([]++e.2.1).set (Int.toNat a.2.2.1) d11,e.2.2),l,true,a.2.2.2.2.1,())) (none) fun d14=>bif decide (((List.length (α:=I) [])+(([]++e.2.1).set (Int.toNat a.2.2.1) d11).length+1)*16≤lim) then bif decide (0≤a.2.1) then Za ([]++([]++e.2.1).set (Int.toNat a.2.2.1) d11)[Int.toNat a.2.1]? (none) fun d15=>Za ([]++([]++e.2.1).set (Int.toNat a.2.2.1) d11)[Int.toNat a.2.1]? (none) fun d16=>some ((e.1,([]++([]++e.2.1).set (Int.toNat a.2.2.1) d11).set (Int.toNat a.2.1) d14,e.2.2.1,e.2.2.2.1,e.2.2.2.2.1,e.2.2.2.2.2),(false,[],[],[],0,0),[9],[],[(t,n,true,a.2.2.2.2.1,a.1==8,e.2.2.2.2.1)]) else none else none else bif decide (((List.length (α:=I) [])+List.length e.2.2.2.1+1)*16≤lim) then
 bif decide (0≤a.2.2.2.2.1) then Za ([]++e.2.2.2.1)[Int.toNat a.2.2.2.2.1]? (none) fun d14=>Za ([]++e.2.2.2.1)[Int.toNat a.2.2.2.2.1]? (none) fun d15=>bif decide (0≤a.2.2.2.1) then Za (([]++e.2.1).set (Int.toNat a.2.2.1) d11)[Int.toNat a.2.2.2.1]? (none) fun d16=>Za (([]++e.2.1).set (Int.toNat a.2.2.1) d11)[Int.toNat a.2.2.2.1]? (none) fun d17=>Za (ZM ([d15,d17],())) (none) fun d18=>bif decide (0≤a.2.2.2.2.1) then Za ([]++e.2.2.2.1)[Int.toNat a.2.2.2.2.1]? (none) fun d19=>Za ([]++e.2.2.2.1)[Int.toNat a.2.2.2.2.1]? (none) fun d20=>some ((e.1,([]++e.2.1).set (Int.toNat a.2.2.1) d11,e.2.2.1,([]++e.2.2.2.1).set (Int.toNat a.2.2.2.2.1) d18,e.2.2.2.2.1,e.2.2.2.2.2),(false,[],[],[],0,0),[9],[],[(t,n,true,a.2.2.2.2.1,a.1==8,e.2.2.2.2.1)]) else none else none else none else none else none else none else bif a.1==8 then bif decide (0≤a.2.2.2.1) then Za e.2.1[Int.toNat a.2.2.2.1]? (none) fun d11=>Za (ZC (d9,(0,IntKind.i64.wrap (d8 - 1)),())) (none) fun d12=>bif decide (d12.1>d12.2) then some ((false,[],[],[],0,0),(false,[],[],[],0,0),[],[(t,true,a.2.2.2.2.1,e.2.2.2.2.1,d11.1,d11.2)],[(t,n,true,a.2.2.2.2.1,a.1==8,e.2.2.2.2.1)]) else bif decide (((List.length (α:=I) [])+List.length e.2.1+1)*16≤lim) then bif decide (0≤a.2.2.1) then Za ([]++e.2.1)[Int.toNat a.2.2.1]? (none) fun d13=>Za ([]++e.2.1)[Int.toNat a.2.2.1]? (none) fun d14=>bif !a.1==8 then Za (Qb (u,t,(e.1,([]++e.2.1).set (Int.toNat a.2.2.1) d12,e.2.2),l,true,a.2.2.2.2.1,())) (none) fun d15=>bif decide (((List.length (α:=I) [])+(([]++e.2.1).set (Int.toNat a.2.2.1) d12).length+1)*16≤lim) then bif decide (0≤a.2.1) then
 Za ([]++([]++e.2.1).set (Int.toNat a.2.2.1) d12)[Int.toNat a.2.1]? (none) fun d16=>Za ([]++([]++e.2.1).set (Int.toNat a.2.2.1) d12)[Int.toNat a.2.1]? (none) fun d17=>some ((e.1,([]++([]++e.2.1).set (Int.toNat a.2.2.1) d12).set (Int.toNat a.2.1) d15,e.2.2.1,e.2.2.2.1,e.2.2.2.2.1,e.2.2.2.2.2),(false,[],[],[],0,0),[],[(t,true,a.2.2.2.2.1,e.2.2.2.2.1,d11.1,d11.2)],[(t,n,true,a.2.2.2.2.1,a.1==8,e.2.2.2.2.1)]) else none else none else bif decide (((List.length (α:=I) [])+List.length e.2.2.2.1+1)*16≤lim) then bif decide (0≤a.2.2.2.2.1) then Za ([]++e.2.2.2.1)[Int.toNat a.2.2.2.2.1]? (none) fun d15=>Za ([]++e.2.2.2.1)[Int.toNat a.2.2.2.2.1]? (none) fun d16=>bif decide (0≤a.2.2.2.1) then Za (([]++e.2.1).set (Int.toNat a.2.2.1) d12)[Int.toNat a.2.2.2.1]? (none) fun d17=>Za (([]++e.2.1).set (Int.toNat a.2.2.1) d12)[Int.toNat a.2.2.2.1]? (none) fun d18=>Za (ZM ([d16,d18],())) (none) fun d19=>bif decide (0≤a.2.2.2.2.1) then Za ([]++e.2.2.2.1)[Int.toNat a.2.2.2.2.1]? (none) fun d20=>Za ([]++e.2.2.2.1)[Int.toNat a.2.2.2.2.1]? (none) fun d21=>some ((e.1,([]++e.2.1).set (Int.toNat a.2.2.1) d12,e.2.2.1,([]++e.2.2.2.1).set (Int.toNat a.2.2.2.2.1) d19,e.2.2.2.2.1,e.2.2.2.2.2),(false,[],[],[],0,0),[],[(t,true,a.2.2.2.2.1,e.2.2.2.2.1,d11.1,d11.2)],[(t,n,true,a.2.2.2.2.1,a.1==8,e.2.2.2.2.1)]) else none else none else none else none else none else none else none else Za (ZC (d9,(0,IntKind.i64.wrap (d8 - 1)),())) (none) fun d11=>bif decide (d11.1>d11.2) then some ((false,[],[],[],0,0),(false,[],[],[],0,0),[],[],[(t,n,true,a.2.2.2.2.1,a.1==8,e.2.2.2.2.1)])
 else bif decide (((List.length (α:=I) [])+List.length e.2.1+1)*16≤lim) then bif decide (0≤a.2.2.1) then Za ([]++e.2.1)[Int.toNat a.2.2.1]? (none) fun d12=>Za ([]++e.2.1)[Int.toNat a.2.2.1]? (none) fun d13=>bif !a.1==8 then Za (Qb (u,t,(e.1,([]++e.2.1).set (Int.toNat a.2.2.1) d11,e.2.2),l,true,a.2.2.2.2.1,())) (none) fun d14=>bif decide (((List.length (α:=I) [])+(([]++e.2.1).set (Int.toNat a.2.2.1) d11).length+1)*16≤lim) then bif decide (0≤a.2.1) then Za ([]++([]++e.2.1).set (Int.toNat a.2.2.1) d11)[Int.toNat a.2.1]? (none) fun d15=>Za ([]++([]++e.2.1).set (Int.toNat a.2.2.1) d11)[Int.toNat a.2.1]? (none) fun d16=>some ((e.1,([]++([]++e.2.1).set (Int.toNat a.2.2.1) d11).set (Int.toNat a.2.1) d14,e.2.2.1,e.2.2.2.1,e.2.2.2.2.1,e.2.2.2.2.2),(false,[],[],[],0,0),[],[],[(t,n,true,a.2.2.2.2.1,a.1==8,e.2.2.2.2.1)]) else none else none else bif decide (((List.length (α:=I) [])+List.length e.2.2.2.1+1)*16≤lim) then bif decide (0≤a.2.2.2.2.1) then Za ([]++e.2.2.2.1)[Int.toNat a.2.2.2.2.1]? (none) fun d14=>Za ([]++e.2.2.2.1)[Int.toNat a.2.2.2.2.1]? (none) fun d15=>bif decide (0≤a.2.2.2.1) then Za (([]++e.2.1).set (Int.toNat a.2.2.1) d11)[Int.toNat a.2.2.2.1]? (none) fun d16=>Za (([]++e.2.1).set (Int.toNat a.2.2.1) d11)[Int.toNat a.2.2.2.1]? (none) fun d17=>Za (ZM ([d15,d17],())) (none) fun d18=>bif decide (0≤a.2.2.2.2.1) then Za ([]++e.2.2.2.1)[Int.toNat a.2.2.2.2.1]? (none) fun d19=>Za ([]++e.2.2.2.1)[Int.toNat a.2.2.2.2.1]? (none) fun d20=>
 some ((e.1,([]++e.2.1).set (Int.toNat a.2.2.1) d11,e.2.2.1,([]++e.2.2.2.1).set (Int.toNat a.2.2.2.2.1) d18,e.2.2.2.2.1,e.2.2.2.2.2),(false,[],[],[],0,0),[],[],[(t,n,true,a.2.2.2.2.1,a.1==8,e.2.2.2.2.1)]) else none else none else none else none else none else none else none else none else bif a.1==8 then bif decide (0≤a.2.2.2.2.1) then Za u.2.1[Int.toNat a.2.2.2.2.1]? (none) fun d8=>bif decide (0≤a.2.2.1) then Za e.2.1[Int.toNat a.2.2.1]? (none) fun d9=>Za (Qp (d9,(0,IntKind.i64.wrap (d8 - 1)),())) (none) fun d10=>bif !d10 then bif a.1==8 then bif decide (0≤a.2.2.2.1) then Za e.2.1[Int.toNat a.2.2.2.1]? (none) fun d11=>Za (ZC (d9,(0,IntKind.i64.wrap (d8 - 1)),())) (none) fun d12=>bif decide (d12.1>d12.2) then some ((false,[],[],[],0,0),(false,[],[],[],0,0),[9],[(t,true,a.2.2.2.2.1,e.2.2.2.2.1,d11.1,d11.2)],[(t,n,true,a.2.2.2.2.1,a.1==8,e.2.2.2.2.1)]) else bif decide (((List.length (α:=I) [])+List.length e.2.1+1)*16≤lim) then bif decide (0≤a.2.2.1) then Za ([]++e.2.1)[Int.toNat a.2.2.1]? (none) fun d13=>Za ([]++e.2.1)[Int.toNat a.2.2.1]? (none) fun d14=>bif !a.1==8 then Za (Qb (u,t,(e.1,([]++e.2.1).set (Int.toNat a.2.2.1) d12,e.2.2),l,true,a.2.2.2.2.1,())) (none) fun d15=>bif decide (((List.length (α:=I) [])+(([]++e.2.1).set (Int.toNat a.2.2.1) d12).length+1)*16≤lim) then bif decide (0≤a.2.1) then Za ([]++([]++e.2.1).set (Int.toNat a.2.2.1) d12)[Int.toNat a.2.1]? (none) fun d16=>Za ([]++([]++e.2.1).set (Int.toNat a.2.2.1) d12)[Int.toNat a.2.1]? (none) fun d17=>
 some ((e.1,([]++([]++e.2.1).set (Int.toNat a.2.2.1) d12).set (Int.toNat a.2.1) d15,e.2.2.1,e.2.2.2.1,e.2.2.2.2.1,e.2.2.2.2.2),(false,[],[],[],0,0),[9],[(t,true,a.2.2.2.2.1,e.2.2.2.2.1,d11.1,d11.2)],[(t,n,true,a.2.2.2.2.1,a.1==8,e.2.2.2.2.1)]) else none else none else bif decide (((List.length (α:=I) [])+List.length e.2.2.2.1+1)*16≤lim) then bif decide (0≤a.2.2.2.2.1) then Za ([]++e.2.2.2.1)[Int.toNat a.2.2.2.2.1]? (none) fun d15=>Za ([]++e.2.2.2.1)[Int.toNat a.2.2.2.2.1]? (none) fun d16=>bif decide (0≤a.2.2.2.1) then Za (([]++e.2.1).set (Int.toNat a.2.2.1) d12)[Int.toNat a.2.2.2.1]? (none) fun d17=>Za (([]++e.2.1).set (Int.toNat a.2.2.1) d12)[Int.toNat a.2.2.2.1]? (none) fun d18=>Za (ZM ([d16,d18],())) (none) fun d19=>bif decide (0≤a.2.2.2.2.1) then Za ([]++e.2.2.2.1)[Int.toNat a.2.2.2.2.1]? (none) fun d20=>Za ([]++e.2.2.2.1)[Int.toNat a.2.2.2.2.1]? (none) fun d21=>some ((e.1,([]++e.2.1).set (Int.toNat a.2.2.1) d12,e.2.2.1,([]++e.2.2.2.1).set (Int.toNat a.2.2.2.2.1) d19,e.2.2.2.2.1,e.2.2.2.2.2),(false,[],[],[],0,0),[9],[(t,true,a.2.2.2.2.1,e.2.2.2.2.1,d11.1,d11.2)],[(t,n,true,a.2.2.2.2.1,a.1==8,e.2.2.2.2.1)]) else none else none else none else none else none else none else none else Za (ZC (d9,(0,IntKind.i64.wrap (d8 - 1)),())) (none) fun d11=>bif decide (d11.1>d11.2) then some ((false,[],[],[],0,0),(false,[],[],[],0,0),[9],[],[(t,n,true,a.2.2.2.2.1,a.1==8,e.2.2.2.2.1)]) else bif decide (((List.length (α:=I) [])+List.length e.2.1+1)*16≤lim) then bif decide (0≤a.2.2.1) then Za ([]++e.2.1)[Int.toNat a.2.2.1]? (none) fun d12=>Za ([]++e.2.1)[Int.toNat a.2.2.1]? (none) fun d13=>bif !a.1==8 then
 Za (Qb (u,t,(e.1,([]++e.2.1).set (Int.toNat a.2.2.1) d11,e.2.2),l,true,a.2.2.2.2.1,())) (none) fun d14=>bif decide (((List.length (α:=I) [])+(([]++e.2.1).set (Int.toNat a.2.2.1) d11).length+1)*16≤lim) then bif decide (0≤a.2.1) then Za ([]++([]++e.2.1).set (Int.toNat a.2.2.1) d11)[Int.toNat a.2.1]? (none) fun d15=>Za ([]++([]++e.2.1).set (Int.toNat a.2.2.1) d11)[Int.toNat a.2.1]? (none) fun d16=>some ((e.1,([]++([]++e.2.1).set (Int.toNat a.2.2.1) d11).set (Int.toNat a.2.1) d14,e.2.2.1,e.2.2.2.1,e.2.2.2.2.1,e.2.2.2.2.2),(false,[],[],[],0,0),[9],[],[(t,n,true,a.2.2.2.2.1,a.1==8,e.2.2.2.2.1)]) else none else none else bif decide (((List.length (α:=I) [])+List.length e.2.2.2.1+1)*16≤lim) then bif decide (0≤a.2.2.2.2.1) then Za ([]++e.2.2.2.1)[Int.toNat a.2.2.2.2.1]? (none) fun d14=>Za ([]++e.2.2.2.1)[Int.toNat a.2.2.2.2.1]? (none) fun d15=>bif decide (0≤a.2.2.2.1) then Za (([]++e.2.1).set (Int.toNat a.2.2.1) d11)[Int.toNat a.2.2.2.1]? (none) fun d16=>Za (([]++e.2.1).set (Int.toNat a.2.2.1) d11)[Int.toNat a.2.2.2.1]? (none) fun d17=>Za (ZM ([d15,d17],())) (none) fun d18=>bif decide (0≤a.2.2.2.2.1) then Za ([]++e.2.2.2.1)[Int.toNat a.2.2.2.2.1]? (none) fun d19=>Za ([]++e.2.2.2.1)[Int.toNat a.2.2.2.2.1]? (none) fun d20=>some ((e.1,([]++e.2.1).set (Int.toNat a.2.2.1) d11,e.2.2.1,([]++e.2.2.2.1).set (Int.toNat a.2.2.2.2.1) d18,e.2.2.2.2.1,e.2.2.2.2.2),(false,[],[],[],0,0),[9],[],[(t,n,true,a.2.2.2.2.1,a.1==8,e.2.2.2.2.1)]) else none else none else none else none else none else none else bif a.1==8 then bif decide (0≤a.2.2.2.1) then Za e.2.1[Int.toNat a.2.2.2.1]? (none) fun d11=>
 Za (ZC (d9,(0,IntKind.i64.wrap (d8 - 1)),())) (none) fun d12=>bif decide (d12.1>d12.2) then some ((false,[],[],[],0,0),(false,[],[],[],0,0),[],[(t,true,a.2.2.2.2.1,e.2.2.2.2.1,d11.1,d11.2)],[(t,n,true,a.2.2.2.2.1,a.1==8,e.2.2.2.2.1)]) else bif decide (((List.length (α:=I) [])+List.length e.2.1+1)*16≤lim) then bif decide (0≤a.2.2.1) then Za ([]++e.2.1)[Int.toNat a.2.2.1]? (none) fun d13=>Za ([]++e.2.1)[Int.toNat a.2.2.1]? (none) fun d14=>bif !a.1==8 then Za (Qb (u,t,(e.1,([]++e.2.1).set (Int.toNat a.2.2.1) d12,e.2.2),l,true,a.2.2.2.2.1,())) (none) fun d15=>bif decide (((List.length (α:=I) [])+(([]++e.2.1).set (Int.toNat a.2.2.1) d12).length+1)*16≤lim) then bif decide (0≤a.2.1) then Za ([]++([]++e.2.1).set (Int.toNat a.2.2.1) d12)[Int.toNat a.2.1]? (none) fun d16=>Za ([]++([]++e.2.1).set (Int.toNat a.2.2.1) d12)[Int.toNat a.2.1]? (none) fun d17=>some ((e.1,([]++([]++e.2.1).set (Int.toNat a.2.2.1) d12).set (Int.toNat a.2.1) d15,e.2.2.1,e.2.2.2.1,e.2.2.2.2.1,e.2.2.2.2.2),(false,[],[],[],0,0),[],[(t,true,a.2.2.2.2.1,e.2.2.2.2.1,d11.1,d11.2)],[(t,n,true,a.2.2.2.2.1,a.1==8,e.2.2.2.2.1)]) else none else none else bif decide (((List.length (α:=I) [])+List.length e.2.2.2.1+1)*16≤lim) then bif decide (0≤a.2.2.2.2.1) then Za ([]++e.2.2.2.1)[Int.toNat a.2.2.2.2.1]? (none) fun d15=>Za ([]++e.2.2.2.1)[Int.toNat a.2.2.2.2.1]? (none) fun d16=>bif decide (0≤a.2.2.2.1) then Za (([]++e.2.1).set (Int.toNat a.2.2.1) d12)[Int.toNat a.2.2.2.1]? (none) fun d17=>Za (([]++e.2.1).set (Int.toNat a.2.2.1) d12)[Int.toNat a.2.2.2.1]? (none) fun d18=>Za (ZM ([d16,d18],())) (none) fun d19=>
 bif decide (0≤a.2.2.2.2.1) then Za ([]++e.2.2.2.1)[Int.toNat a.2.2.2.2.1]? (none) fun d20=>Za ([]++e.2.2.2.1)[Int.toNat a.2.2.2.2.1]? (none) fun d21=>some ((e.1,([]++e.2.1).set (Int.toNat a.2.2.1) d12,e.2.2.1,([]++e.2.2.2.1).set (Int.toNat a.2.2.2.2.1) d19,e.2.2.2.2.1,e.2.2.2.2.2),(false,[],[],[],0,0),[],[(t,true,a.2.2.2.2.1,e.2.2.2.2.1,d11.1,d11.2)],[(t,n,true,a.2.2.2.2.1,a.1==8,e.2.2.2.2.1)]) else none else none else none else none else none else none else none else Za (ZC (d9,(0,IntKind.i64.wrap (d8 - 1)),())) (none) fun d11=>bif decide (d11.1>d11.2) then some ((false,[],[],[],0,0),(false,[],[],[],0,0),[],[],[(t,n,true,a.2.2.2.2.1,a.1==8,e.2.2.2.2.1)]) else bif decide (((List.length (α:=I) [])+List.length e.2.1+1)*16≤lim) then bif decide (0≤a.2.2.1) then Za ([]++e.2.1)[Int.toNat a.2.2.1]? (none) fun d12=>Za ([]++e.2.1)[Int.toNat a.2.2.1]? (none) fun d13=>bif !a.1==8 then Za (Qb (u,t,(e.1,([]++e.2.1).set (Int.toNat a.2.2.1) d11,e.2.2),l,true,a.2.2.2.2.1,())) (none) fun d14=>bif decide (((List.length (α:=I) [])+(([]++e.2.1).set (Int.toNat a.2.2.1) d11).length+1)*16≤lim) then bif decide (0≤a.2.1) then Za ([]++([]++e.2.1).set (Int.toNat a.2.2.1) d11)[Int.toNat a.2.1]? (none) fun d15=>Za ([]++([]++e.2.1).set (Int.toNat a.2.2.1) d11)[Int.toNat a.2.1]? (none) fun d16=>some ((e.1,([]++([]++e.2.1).set (Int.toNat a.2.2.1) d11).set (Int.toNat a.2.1) d14,e.2.2.1,e.2.2.2.1,e.2.2.2.2.1,e.2.2.2.2.2),(false,[],[],[],0,0),[],[],[(t,n,true,a.2.2.2.2.1,a.1==8,e.2.2.2.2.1)]) else none else none else bif decide (((List.length (α:=I) [])+List.length e.2.2.2.1+1)*16≤lim) then
 bif decide (0≤a.2.2.2.2.1) then Za ([]++e.2.2.2.1)[Int.toNat a.2.2.2.2.1]? (none) fun d14=>Za ([]++e.2.2.2.1)[Int.toNat a.2.2.2.2.1]? (none) fun d15=>bif decide (0≤a.2.2.2.1) then Za (([]++e.2.1).set (Int.toNat a.2.2.1) d11)[Int.toNat a.2.2.2.1]? (none) fun d16=>Za (([]++e.2.1).set (Int.toNat a.2.2.1) d11)[Int.toNat a.2.2.2.1]? (none) fun d17=>Za (ZM ([d15,d17],())) (none) fun d18=>bif decide (0≤a.2.2.2.2.1) then Za ([]++e.2.2.2.1)[Int.toNat a.2.2.2.2.1]? (none) fun d19=>Za ([]++e.2.2.2.1)[Int.toNat a.2.2.2.2.1]? (none) fun d20=>some ((e.1,([]++e.2.1).set (Int.toNat a.2.2.1) d11,e.2.2.1,([]++e.2.2.2.1).set (Int.toNat a.2.2.2.2.1) d18,e.2.2.2.2.1,e.2.2.2.2.2),(false,[],[],[],0,0),[],[],[(t,n,true,a.2.2.2.2.1,a.1==8,e.2.2.2.2.1)]) else none else none else none else none else none else none else none else none else bif a.1==9 then Za (ZY (e.2.2.2.2.2,a.2.2.2.2.1,())) (none) fun d8=>bif d8 then Za (ZY (e.2.2.2.2.1,a.2.2.2.2.1,())) (none) fun d9=>bif d9 then some ((false,[],[],[],0,0),(false,[],[],[],0,0),[11],[],[]) else Za (Z7 ((a.1,a.2.1,a.2.2.1,a.2.2.2.1,a.2.2.2.2.1,a.2.2.2.2.2.1,a.2.2.2.2.2.2.1,a.2.2.2.2.2.2.2.1,a.2.2.2.2.2.2.2.2,u.1,u.2.1,u.2.2.1,u.2.2.2,t,n,e.1,e.2.1,e.2.2.1,e.2.2.2.1,e.2.2.2.2.1,e.2.2.2.2.2,l,false,[],[],[],0,0,false,[],[],[],0,0,[11],[],[],()),e.2.2.1,false,())) (none) fun d10=>
 Za (Z7 ((a.1,a.2.1,a.2.2.1,a.2.2.2.1,a.2.2.2.2.1,a.2.2.2.2.2.1,a.2.2.2.2.2.2.1,a.2.2.2.2.2.2.2.1,a.2.2.2.2.2.2.2.2,u.1,u.2.1,u.2.2.1,u.2.2.2,t,n,e.1,e.2.1,e.2.2.1,e.2.2.2.1,e.2.2.2.2.1,e.2.2.2.2.2,l,false,[],[],[],0,0,false,[],[],[],0,0,[11],[],[],()),e.2.2.2.1,true,())) (none) fun d11=>Za (KH (e.2.2.2.2.1,[a.2.2.2.2.1],())) (none) fun d12=>Za (KH (e.2.2.2.2.2,[a.2.2.2.2.1],())) (none) fun d13=>some ((e.1,e.2.1,d10,d11,d12,d13),(false,[],[],[],0,0),[11],[],[]) else Za (ZY (e.2.2.2.2.1,a.2.2.2.2.1,())) (none) fun d9=>bif d9 then some ((false,[],[],[],0,0),(false,[],[],[],0,0),[],[],[]) else Za (Z7 ((a.1,a.2.1,a.2.2.1,a.2.2.2.1,a.2.2.2.2.1,a.2.2.2.2.2.1,a.2.2.2.2.2.2.1,a.2.2.2.2.2.2.2.1,a.2.2.2.2.2.2.2.2,u.1,u.2.1,u.2.2.1,u.2.2.2,t,n,e.1,e.2.1,e.2.2.1,e.2.2.2.1,e.2.2.2.2.1,e.2.2.2.2.2,l,false,[],[],[],0,0,false,[],[],[],0,0,[],[],[],()),e.2.2.1,false,())) (none) fun d10=>Za (Z7 ((a.1,a.2.1,a.2.2.1,a.2.2.2.1,a.2.2.2.2.1,a.2.2.2.2.2.1,a.2.2.2.2.2.2.1,a.2.2.2.2.2.2.2.1,a.2.2.2.2.2.2.2.2,u.1,u.2.1,u.2.2.1,u.2.2.2,t,n,e.1,e.2.1,e.2.2.1,e.2.2.2.1,e.2.2.2.2.1,e.2.2.2.2.2,l,false,[],[],[],0,0,false,[],[],[],0,0,[],[],[],()),e.2.2.2.1,true,())) (none) fun d11=>Za (KH (e.2.2.2.2.1,[a.2.2.2.2.1],())) (none) fun d12=>Za (KH (e.2.2.2.2.2,[a.2.2.2.2.1],())) (none) fun d13=>some ((e.1,e.2.1,d10,d11,d12,d13),(false,[],[],[],0,0),[],[],[]) else bif a.1==10 then Za (ZY (e.2.2.2.2.1,a.2.2.2.2.1,())) (none) fun d8=>bif !d8 then Za (ZY (e.2.2.2.2.2,a.2.2.2.2.1,())) (none) fun d9=>
 bif !d9 then some ((false,[],[],[],0,0),(false,[],[],[],0,0),[12],[],[]) else Za (Qx (e.2.2.2.2.1,[a.2.2.2.2.1],())) (none) fun d10=>Za (Qx (e.2.2.2.2.2,[a.2.2.2.2.1],())) (none) fun d11=>some ((e.1,e.2.1,e.2.2.1,e.2.2.2.1,d10,d11),(false,[],[],[],0,0),[12],[],[]) else Za (ZY (e.2.2.2.2.2,a.2.2.2.2.1,())) (none) fun d9=>bif !d9 then some ((false,[],[],[],0,0),(false,[],[],[],0,0),[],[],[]) else Za (Qx (e.2.2.2.2.1,[a.2.2.2.2.1],())) (none) fun d10=>Za (Qx (e.2.2.2.2.2,[a.2.2.2.2.1],())) (none) fun d11=>some ((e.1,e.2.1,e.2.2.1,e.2.2.2.1,d10,d11),(false,[],[],[],0,0),[],[],[]) else bif a.1==11 then bif decide (0≤a.2.2.1) then Za e.2.1[Int.toNat a.2.2.1]? (none) fun d8=>bif decide (0≤a.2.2.2.1) then Za e.2.1[Int.toNat a.2.2.2.1]? (none) fun d9=>Za (ZW (a.2.2.2.2.2.2.1,d8,d9,())) (none) fun d10=>bif a.2.2.1==a.2.2.2.1 then Za (ZC (d10.1,d10.2.1,())) (none) fun d11=>bif decide (d11.1>d11.2) then Za (QR (a.2.2.2.2.2.2.1,())) (none) fun d12=>bif decide (0≤a.2.2.1) then Za e.2.1[Int.toNat a.2.2.1]? (none) fun d13=>bif decide (0≤a.2.2.2.1) then Za e.2.1[Int.toNat a.2.2.2.1]? (none) fun d14=>Za (ZW (d12,d13,d14,())) (none) fun d15=>bif a.2.2.1==a.2.2.2.1 then Za (ZC (d15.1,d15.2.1,())) (none) fun d16=>bif decide (d16.1>d16.2) then some ((false,[],[],[],0,0),(false,[],[],[],0,0),[],[],[]) else bif decide (d16.1>d16.2) then some ((false,[],[],[],0,0),(false,[],[],[],0,0),[],[],[]) else bif decide (((List.length (α:=I) [])+List.length e.2.1+1)*16≤lim) then bif decide (0≤a.2.2.1) then
 Za ([]++e.2.1)[Int.toNat a.2.2.1]? (none) fun d17=>Za ([]++e.2.1)[Int.toNat a.2.2.1]? (none) fun d18=>bif decide (0≤a.2.2.2.1) then Za (([]++e.2.1).set (Int.toNat a.2.2.1) d16)[Int.toNat a.2.2.2.1]? (none) fun d19=>Za (([]++e.2.1).set (Int.toNat a.2.2.1) d16)[Int.toNat a.2.2.2.1]? (none) fun d20=>some ((false,[],[],[],0,0),(e.1,(([]++e.2.1).set (Int.toNat a.2.2.1) d16).set (Int.toNat a.2.2.2.1) d16,e.2.2.1,e.2.2.2.1,e.2.2.2.2.1,e.2.2.2.2.2),[],[],[]) else none else none else none else bif decide (d15.1.1>d15.1.2) then some ((false,[],[],[],0,0),(false,[],[],[],0,0),[],[],[]) else bif decide (d15.2.1.1>d15.2.1.2) then some ((false,[],[],[],0,0),(false,[],[],[],0,0),[],[],[]) else bif decide (((List.length (α:=I) [])+List.length e.2.1+1)*16≤lim) then bif decide (0≤a.2.2.1) then Za ([]++e.2.1)[Int.toNat a.2.2.1]? (none) fun d16=>Za ([]++e.2.1)[Int.toNat a.2.2.1]? (none) fun d17=>bif decide (0≤a.2.2.2.1) then Za (([]++e.2.1).set (Int.toNat a.2.2.1) d15.1)[Int.toNat a.2.2.2.1]? (none) fun d18=>Za (([]++e.2.1).set (Int.toNat a.2.2.1) d15.1)[Int.toNat a.2.2.2.1]? (none) fun d19=>some ((false,[],[],[],0,0),(e.1,(([]++e.2.1).set (Int.toNat a.2.2.1) d15.1).set (Int.toNat a.2.2.2.1) d15.2.1,e.2.2.1,e.2.2.2.1,e.2.2.2.2.1,e.2.2.2.2.2),[],[],[]) else none else none else none else none else none else bif decide (d11.1>d11.2) then Za (QR (a.2.2.2.2.2.2.1,())) (none) fun d12=>bif decide (0≤a.2.2.1) then Za e.2.1[Int.toNat a.2.2.1]? (none) fun d13=>bif decide (0≤a.2.2.2.1) then Za e.2.1[Int.toNat a.2.2.2.1]? (none) fun d14=>Za (ZW (d12,d13,d14,())) (none) fun d15=>bif a.2.2.1==a.2.2.2.1 then
 Za (ZC (d15.1,d15.2.1,())) (none) fun d16=>bif decide (d16.1>d16.2) then some ((false,[],[],[],0,0),(false,[],[],[],0,0),[],[],[]) else bif decide (d16.1>d16.2) then some ((false,[],[],[],0,0),(false,[],[],[],0,0),[],[],[]) else bif decide (((List.length (α:=I) [])+List.length e.2.1+1)*16≤lim) then bif decide (0≤a.2.2.1) then Za ([]++e.2.1)[Int.toNat a.2.2.1]? (none) fun d17=>Za ([]++e.2.1)[Int.toNat a.2.2.1]? (none) fun d18=>bif decide (0≤a.2.2.2.1) then Za (([]++e.2.1).set (Int.toNat a.2.2.1) d16)[Int.toNat a.2.2.2.1]? (none) fun d19=>Za (([]++e.2.1).set (Int.toNat a.2.2.1) d16)[Int.toNat a.2.2.2.1]? (none) fun d20=>some ((false,[],[],[],0,0),(e.1,(([]++e.2.1).set (Int.toNat a.2.2.1) d16).set (Int.toNat a.2.2.2.1) d16,e.2.2.1,e.2.2.2.1,e.2.2.2.2.1,e.2.2.2.2.2),[],[],[]) else none else none else none else bif decide (d15.1.1>d15.1.2) then some ((false,[],[],[],0,0),(false,[],[],[],0,0),[],[],[]) else bif decide (d15.2.1.1>d15.2.1.2) then some ((false,[],[],[],0,0),(false,[],[],[],0,0),[],[],[]) else bif decide (((List.length (α:=I) [])+List.length e.2.1+1)*16≤lim) then bif decide (0≤a.2.2.1) then Za ([]++e.2.1)[Int.toNat a.2.2.1]? (none) fun d16=>Za ([]++e.2.1)[Int.toNat a.2.2.1]? (none) fun d17=>bif decide (0≤a.2.2.2.1) then Za (([]++e.2.1).set (Int.toNat a.2.2.1) d15.1)[Int.toNat a.2.2.2.1]? (none) fun d18=>Za (([]++e.2.1).set (Int.toNat a.2.2.1) d15.1)[Int.toNat a.2.2.2.1]? (none) fun d19=>some ((false,[],[],[],0,0),(e.1,(([]++e.2.1).set (Int.toNat a.2.2.1) d15.1).set (Int.toNat a.2.2.2.1) d15.2.1,e.2.2.1,e.2.2.2.1,e.2.2.2.2.1,e.2.2.2.2.2),[],[],[]) else none else none else none else none
 else none else bif decide (((List.length (α:=I) [])+List.length e.2.1+1)*16≤lim) then bif decide (0≤a.2.2.1) then Za ([]++e.2.1)[Int.toNat a.2.2.1]? (none) fun d12=>Za ([]++e.2.1)[Int.toNat a.2.2.1]? (none) fun d13=>bif decide (0≤a.2.2.2.1) then Za (([]++e.2.1).set (Int.toNat a.2.2.1) d11)[Int.toNat a.2.2.2.1]? (none) fun d14=>Za (([]++e.2.1).set (Int.toNat a.2.2.1) d11)[Int.toNat a.2.2.2.1]? (none) fun d15=>Za (QR (a.2.2.2.2.2.2.1,())) (none) fun d16=>bif decide (0≤a.2.2.1) then Za e.2.1[Int.toNat a.2.2.1]? (none) fun d17=>bif decide (0≤a.2.2.2.1) then Za e.2.1[Int.toNat a.2.2.2.1]? (none) fun d18=>Za (ZW (d16,d17,d18,())) (none) fun d19=>bif a.2.2.1==a.2.2.2.1 then Za (ZC (d19.1,d19.2.1,())) (none) fun d20=>bif decide (d20.1>d20.2) then some ((e.1,(([]++e.2.1).set (Int.toNat a.2.2.1) d11).set (Int.toNat a.2.2.2.1) d11,e.2.2.1,e.2.2.2.1,e.2.2.2.2.1,e.2.2.2.2.2),(false,[],[],[],0,0),[],[],[]) else bif decide (d20.1>d20.2) then some ((e.1,(([]++e.2.1).set (Int.toNat a.2.2.1) d11).set (Int.toNat a.2.2.2.1) d11,e.2.2.1,e.2.2.2.1,e.2.2.2.2.1,e.2.2.2.2.2),(false,[],[],[],0,0),[],[],[]) else bif decide (((List.length (α:=I) [])+List.length e.2.1+1)*16≤lim) then bif decide (0≤a.2.2.1) then Za ([]++e.2.1)[Int.toNat a.2.2.1]? (none) fun d21=>Za ([]++e.2.1)[Int.toNat a.2.2.1]? (none) fun d22=>bif decide (0≤a.2.2.2.1) then Za (([]++e.2.1).set (Int.toNat a.2.2.1) d20)[Int.toNat a.2.2.2.1]? (none) fun d23=>Za (([]++e.2.1).set (Int.toNat a.2.2.1) d20)[Int.toNat a.2.2.2.1]? (none) fun d24=>
 some ((e.1,(([]++e.2.1).set (Int.toNat a.2.2.1) d11).set (Int.toNat a.2.2.2.1) d11,e.2.2.1,e.2.2.2.1,e.2.2.2.2.1,e.2.2.2.2.2),(e.1,(([]++e.2.1).set (Int.toNat a.2.2.1) d20).set (Int.toNat a.2.2.2.1) d20,e.2.2.1,e.2.2.2.1,e.2.2.2.2.1,e.2.2.2.2.2),[],[],[]) else none else none else none else bif decide (d19.1.1>d19.1.2) then some ((e.1,(([]++e.2.1).set (Int.toNat a.2.2.1) d11).set (Int.toNat a.2.2.2.1) d11,e.2.2.1,e.2.2.2.1,e.2.2.2.2.1,e.2.2.2.2.2),(false,[],[],[],0,0),[],[],[]) else bif decide (d19.2.1.1>d19.2.1.2) then some ((e.1,(([]++e.2.1).set (Int.toNat a.2.2.1) d11).set (Int.toNat a.2.2.2.1) d11,e.2.2.1,e.2.2.2.1,e.2.2.2.2.1,e.2.2.2.2.2),(false,[],[],[],0,0),[],[],[]) else bif decide (((List.length (α:=I) [])+List.length e.2.1+1)*16≤lim) then bif decide (0≤a.2.2.1) then Za ([]++e.2.1)[Int.toNat a.2.2.1]? (none) fun d20=>Za ([]++e.2.1)[Int.toNat a.2.2.1]? (none) fun d21=>bif decide (0≤a.2.2.2.1) then Za (([]++e.2.1).set (Int.toNat a.2.2.1) d19.1)[Int.toNat a.2.2.2.1]? (none) fun d22=>Za (([]++e.2.1).set (Int.toNat a.2.2.1) d19.1)[Int.toNat a.2.2.2.1]? (none) fun d23=>some ((e.1,(([]++e.2.1).set (Int.toNat a.2.2.1) d11).set (Int.toNat a.2.2.2.1) d11,e.2.2.1,e.2.2.2.1,e.2.2.2.2.1,e.2.2.2.2.2),(e.1,(([]++e.2.1).set (Int.toNat a.2.2.1) d19.1).set (Int.toNat a.2.2.2.1) d19.2.1,e.2.2.1,e.2.2.2.1,e.2.2.2.2.1,e.2.2.2.2.2),[],[],[]) else none else none else none else none else none else none else none else none else bif decide (d10.1.1>d10.1.2) then Za (QR (a.2.2.2.2.2.2.1,())) (none) fun d11=>bif decide (0≤a.2.2.1) then Za e.2.1[Int.toNat a.2.2.1]? (none) fun d12=>bif decide (0≤a.2.2.2.1) then Za e.2.1[Int.toNat a.2.2.2.1]? (none) fun d13=>
 Za (ZW (d11,d12,d13,())) (none) fun d14=>bif a.2.2.1==a.2.2.2.1 then Za (ZC (d14.1,d14.2.1,())) (none) fun d15=>bif decide (d15.1>d15.2) then some ((false,[],[],[],0,0),(false,[],[],[],0,0),[],[],[]) else bif decide (d15.1>d15.2) then some ((false,[],[],[],0,0),(false,[],[],[],0,0),[],[],[]) else bif decide (((List.length (α:=I) [])+List.length e.2.1+1)*16≤lim) then bif decide (0≤a.2.2.1) then Za ([]++e.2.1)[Int.toNat a.2.2.1]? (none) fun d16=>Za ([]++e.2.1)[Int.toNat a.2.2.1]? (none) fun d17=>bif decide (0≤a.2.2.2.1) then Za (([]++e.2.1).set (Int.toNat a.2.2.1) d15)[Int.toNat a.2.2.2.1]? (none) fun d18=>Za (([]++e.2.1).set (Int.toNat a.2.2.1) d15)[Int.toNat a.2.2.2.1]? (none) fun d19=>some ((false,[],[],[],0,0),(e.1,(([]++e.2.1).set (Int.toNat a.2.2.1) d15).set (Int.toNat a.2.2.2.1) d15,e.2.2.1,e.2.2.2.1,e.2.2.2.2.1,e.2.2.2.2.2),[],[],[]) else none else none else none else bif decide (d14.1.1>d14.1.2) then some ((false,[],[],[],0,0),(false,[],[],[],0,0),[],[],[]) else bif decide (d14.2.1.1>d14.2.1.2) then some ((false,[],[],[],0,0),(false,[],[],[],0,0),[],[],[]) else bif decide (((List.length (α:=I) [])+List.length e.2.1+1)*16≤lim) then bif decide (0≤a.2.2.1) then Za ([]++e.2.1)[Int.toNat a.2.2.1]? (none) fun d15=>Za ([]++e.2.1)[Int.toNat a.2.2.1]? (none) fun d16=>bif decide (0≤a.2.2.2.1) then Za (([]++e.2.1).set (Int.toNat a.2.2.1) d14.1)[Int.toNat a.2.2.2.1]? (none) fun d17=>Za (([]++e.2.1).set (Int.toNat a.2.2.1) d14.1)[Int.toNat a.2.2.2.1]? (none) fun d18=>
 some ((false,[],[],[],0,0),(e.1,(([]++e.2.1).set (Int.toNat a.2.2.1) d14.1).set (Int.toNat a.2.2.2.1) d14.2.1,e.2.2.1,e.2.2.2.1,e.2.2.2.2.1,e.2.2.2.2.2),[],[],[]) else none else none else none else none else none else bif decide (d10.2.1.1>d10.2.1.2) then Za (QR (a.2.2.2.2.2.2.1,())) (none) fun d11=>bif decide (0≤a.2.2.1) then Za e.2.1[Int.toNat a.2.2.1]? (none) fun d12=>bif decide (0≤a.2.2.2.1) then Za e.2.1[Int.toNat a.2.2.2.1]? (none) fun d13=>Za (ZW (d11,d12,d13,())) (none) fun d14=>bif a.2.2.1==a.2.2.2.1 then Za (ZC (d14.1,d14.2.1,())) (none) fun d15=>bif decide (d15.1>d15.2) then some ((false,[],[],[],0,0),(false,[],[],[],0,0),[],[],[]) else bif decide (d15.1>d15.2) then some ((false,[],[],[],0,0),(false,[],[],[],0,0),[],[],[]) else bif decide (((List.length (α:=I) [])+List.length e.2.1+1)*16≤lim) then bif decide (0≤a.2.2.1) then Za ([]++e.2.1)[Int.toNat a.2.2.1]? (none) fun d16=>Za ([]++e.2.1)[Int.toNat a.2.2.1]? (none) fun d17=>bif decide (0≤a.2.2.2.1) then Za (([]++e.2.1).set (Int.toNat a.2.2.1) d15)[Int.toNat a.2.2.2.1]? (none) fun d18=>Za (([]++e.2.1).set (Int.toNat a.2.2.1) d15)[Int.toNat a.2.2.2.1]? (none) fun d19=>some ((false,[],[],[],0,0),(e.1,(([]++e.2.1).set (Int.toNat a.2.2.1) d15).set (Int.toNat a.2.2.2.1) d15,e.2.2.1,e.2.2.2.1,e.2.2.2.2.1,e.2.2.2.2.2),[],[],[]) else none else none else none else bif decide (d14.1.1>d14.1.2) then some ((false,[],[],[],0,0),(false,[],[],[],0,0),[],[],[]) else bif decide (d14.2.1.1>d14.2.1.2) then some ((false,[],[],[],0,0),(false,[],[],[],0,0),[],[],[]) else bif decide (((List.length (α:=I) [])+List.length e.2.1+1)*16≤lim) then
 bif decide (0≤a.2.2.1) then Za ([]++e.2.1)[Int.toNat a.2.2.1]? (none) fun d15=>Za ([]++e.2.1)[Int.toNat a.2.2.1]? (none) fun d16=>bif decide (0≤a.2.2.2.1) then Za (([]++e.2.1).set (Int.toNat a.2.2.1) d14.1)[Int.toNat a.2.2.2.1]? (none) fun d17=>Za (([]++e.2.1).set (Int.toNat a.2.2.1) d14.1)[Int.toNat a.2.2.2.1]? (none) fun d18=>some ((false,[],[],[],0,0),(e.1,(([]++e.2.1).set (Int.toNat a.2.2.1) d14.1).set (Int.toNat a.2.2.2.1) d14.2.1,e.2.2.1,e.2.2.2.1,e.2.2.2.2.1,e.2.2.2.2.2),[],[],[]) else none else none else none else none else none else bif decide (((List.length (α:=I) [])+List.length e.2.1+1)*16≤lim) then bif decide (0≤a.2.2.1) then Za ([]++e.2.1)[Int.toNat a.2.2.1]? (none) fun d11=>Za ([]++e.2.1)[Int.toNat a.2.2.1]? (none) fun d12=>bif decide (0≤a.2.2.2.1) then Za (([]++e.2.1).set (Int.toNat a.2.2.1) d10.1)[Int.toNat a.2.2.2.1]? (none) fun d13=>Za (([]++e.2.1).set (Int.toNat a.2.2.1) d10.1)[Int.toNat a.2.2.2.1]? (none) fun d14=>Za (QR (a.2.2.2.2.2.2.1,())) (none) fun d15=>bif decide (0≤a.2.2.1) then Za e.2.1[Int.toNat a.2.2.1]? (none) fun d16=>bif decide (0≤a.2.2.2.1) then Za e.2.1[Int.toNat a.2.2.2.1]? (none) fun d17=>Za (ZW (d15,d16,d17,())) (none) fun d18=>bif a.2.2.1==a.2.2.2.1 then Za (ZC (d18.1,d18.2.1,())) (none) fun d19=>bif decide (d19.1>d19.2) then some ((e.1,(([]++e.2.1).set (Int.toNat a.2.2.1) d10.1).set (Int.toNat a.2.2.2.1) d10.2.1,e.2.2.1,e.2.2.2.1,e.2.2.2.2.1,e.2.2.2.2.2),(false,[],[],[],0,0),[],[],[]) else bif decide (d19.1>d19.2) then
 some ((e.1,(([]++e.2.1).set (Int.toNat a.2.2.1) d10.1).set (Int.toNat a.2.2.2.1) d10.2.1,e.2.2.1,e.2.2.2.1,e.2.2.2.2.1,e.2.2.2.2.2),(false,[],[],[],0,0),[],[],[]) else bif decide (((List.length (α:=I) [])+List.length e.2.1+1)*16≤lim) then bif decide (0≤a.2.2.1) then Za ([]++e.2.1)[Int.toNat a.2.2.1]? (none) fun d20=>Za ([]++e.2.1)[Int.toNat a.2.2.1]? (none) fun d21=>bif decide (0≤a.2.2.2.1) then Za (([]++e.2.1).set (Int.toNat a.2.2.1) d19)[Int.toNat a.2.2.2.1]? (none) fun d22=>Za (([]++e.2.1).set (Int.toNat a.2.2.1) d19)[Int.toNat a.2.2.2.1]? (none) fun d23=>some ((e.1,(([]++e.2.1).set (Int.toNat a.2.2.1) d10.1).set (Int.toNat a.2.2.2.1) d10.2.1,e.2.2.1,e.2.2.2.1,e.2.2.2.2.1,e.2.2.2.2.2),(e.1,(([]++e.2.1).set (Int.toNat a.2.2.1) d19).set (Int.toNat a.2.2.2.1) d19,e.2.2.1,e.2.2.2.1,e.2.2.2.2.1,e.2.2.2.2.2),[],[],[]) else none else none else none else bif decide (d18.1.1>d18.1.2) then some ((e.1,(([]++e.2.1).set (Int.toNat a.2.2.1) d10.1).set (Int.toNat a.2.2.2.1) d10.2.1,e.2.2.1,e.2.2.2.1,e.2.2.2.2.1,e.2.2.2.2.2),(false,[],[],[],0,0),[],[],[]) else bif decide (d18.2.1.1>d18.2.1.2) then some ((e.1,(([]++e.2.1).set (Int.toNat a.2.2.1) d10.1).set (Int.toNat a.2.2.2.1) d10.2.1,e.2.2.1,e.2.2.2.1,e.2.2.2.2.1,e.2.2.2.2.2),(false,[],[],[],0,0),[],[],[]) else bif decide (((List.length (α:=I) [])+List.length e.2.1+1)*16≤lim) then bif decide (0≤a.2.2.1) then Za ([]++e.2.1)[Int.toNat a.2.2.1]? (none) fun d19=>Za ([]++e.2.1)[Int.toNat a.2.2.1]? (none) fun d20=>bif decide (0≤a.2.2.2.1) then Za (([]++e.2.1).set (Int.toNat a.2.2.1) d18.1)[Int.toNat a.2.2.2.1]? (none) fun d21=>
 Za (([]++e.2.1).set (Int.toNat a.2.2.1) d18.1)[Int.toNat a.2.2.2.1]? (none) fun d22=>some ((e.1,(([]++e.2.1).set (Int.toNat a.2.2.1) d10.1).set (Int.toNat a.2.2.2.1) d10.2.1,e.2.2.1,e.2.2.2.1,e.2.2.2.2.1,e.2.2.2.2.2),(e.1,(([]++e.2.1).set (Int.toNat a.2.2.1) d18.1).set (Int.toNat a.2.2.2.1) d18.2.1,e.2.2.1,e.2.2.2.1,e.2.2.2.2.1,e.2.2.2.2.2),[],[],[]) else none else none else none else none else none else none else none else none else none else none else bif a.1==12 then some ((e.1,e.2.1,e.2.2.1,e.2.2.2.1,e.2.2.2.2.1,e.2.2.2.2.2),(false,[],[],[],0,0),[],[],[]) else bif a.1==13 then some ((false,[],[],[],0,0),(false,[],[],[],0,0),[10],[],[]) else some ((false,[],[],[],0,0),(false,[],[],[],0,0),[],[],[])
def Wy (a0:U) (a1 a2:Int) (a3:E) (a4:List En):Option O:=bif decide (0≤a1) then Za a0.2.2.2[a1.toNat]? none fun d6=>bif decide (0≤a2) then Za d6.2[a2.toNat]? none fun d7=>bif a3.1 then bF a0 a1 a2 a3 a4 d6 d7 else some (((false,[],[],[],0,0):E),((false,[],[],[],0,0):E),[],[],[]) else none else none
def ZcK (x:(U×(Int×(Int×(E×((List En)×Unit)))))):Option O:=Wy x.1 x.2.1 x.2.2.1 x.2.2.2.1 x.2.2.2.2.1
def Zut:=conP true ZO6 (.dat tO) ZcK
theorem ZFT:Zg Tryz.prog 63 Zut:=Ze (calU ZRY [] 40 1048576 8 63) true (by rfl) (by rfl) (fun x r e=>(Zk _ _ _ _ _ _ _).trans ((show _=ZcK x by kernel_rfl).trans e)) (.inl rfl)
def ZMO:List Sh:=[.dat (.int .i64)]
def ZPS:List Con:=[]
def ZRt (a0:Int):Option I:=some (a0,a0)
def ZHa (x:Int×Unit):Option I:=ZRt x.1
def Zl6:=conP true ZMO (.dat tI) ZHa
theorem ZsU:Zg Tryz.prog 20 Zl6:=Ze (calU ZPS [] 40 1048576 8 20) true (by rfl) (by rfl) (fun x r e=>(Zk _ _ _ _ _ _ _).trans ((show _=ZHa x by kernel_rfl).trans e)) (.inl rfl)
def ZHG (a0:A) (a1:E):Option O:=bif decide (0≤a0.2.2.1) then Za a1.2.1[Int.toNat a0.2.2.1]? none fun d3=>bif decide (0≤a0.2.2.2.1) then Za a1.2.1[Int.toNat a0.2.2.2.1]? none fun d4=>Za (ZtE (a0.2.2.2.2.2.2.1,d3,d4,())) none fun d5=>bif d5.2.1 then bif d5.2.2.1 then bif !decide (d5.1.1>d5.1.2) then Za (Zw (a1,a0.2.1,d5.1,())) none fun d6=>some ((d6.1,d6.2.1,d6.2.2.1,d6.2.2.2.1,d6.2.2.2.2.1,d6.2.2.2.2.2),((false,[],[],[],0,0):E),[7,8],[],[]) else some (((false,[],[],[],0,0):E),((false,[],[],[],0,0):E),[7,8],[],[]) else bif !decide (d5.1.1>d5.1.2) then Za (Zw (a1,a0.2.1,d5.1,())) none fun d6=>some ((d6.1,d6.2.1,d6.2.2.1,d6.2.2.2.1,d6.2.2.2.2.1,d6.2.2.2.2.2),((false,[],[],[],0,0):E),[7],[],[]) else some (((false,[],[],[],0,0):E),((false,[],[],[],0,0):E),[7],[],[]) else bif d5.2.2.1 then bif !decide (d5.1.1>d5.1.2) then Za (Zw (a1,a0.2.1,d5.1,())) none fun d6=>some ((d6.1,d6.2.1,d6.2.2.1,d6.2.2.2.1,d6.2.2.2.2.1,d6.2.2.2.2.2),((false,[],[],[],0,0):E),[8],[],[]) else some (((false,[],[],[],0,0):E),((false,[],[],[],0,0):E),[8],[],[]) else bif !decide (d5.1.1>d5.1.2) then Za (Zw (a1,a0.2.1,d5.1,())) none fun d6=>some ((d6.1,d6.2.1,d6.2.2.1,d6.2.2.2.1,d6.2.2.2.2.1,d6.2.2.2.2.2),((false,[],[],[],0,0):E),[],[],[]) else some (((false,[],[],[],0,0):E),((false,[],[],[],0,0):E),[],[],[]) else none else none
def ZlQ (x:A×(E×Unit)):Option O:=ZHG x.1 x.2.1
def Zwx (a0:A) (a1:E):Option O:=Za (KM (a1.2.2.2.2.1,a0.2.2.2.2.1,())) none fun d3=>bif !d3 then Za (KM (a1.2.2.2.2.2,a0.2.2.2.2.1,())) none fun d4=>bif !d4 then some (((false,[],[],[],0,0):E),((false,[],[],[],0,0):E),[12],[],[]) else Za (Zam (a1.2.2.2.2.1,[a0.2.2.2.2.1],())) none fun d5=>Za (Zam (a1.2.2.2.2.2,[a0.2.2.2.2.1],())) none fun d6=>some ((a1.1,a1.2.1,a1.2.2.1,a1.2.2.2.1,d5,d6),((false,[],[],[],0,0):E),[12],[],[]) else Za (KM (a1.2.2.2.2.2,a0.2.2.2.2.1,())) none fun d4=>bif !d4 then some (((false,[],[],[],0,0):E),((false,[],[],[],0,0):E),[],[],[]) else Za (Zam (a1.2.2.2.2.1,[a0.2.2.2.2.1],())) none fun d5=>Za (Zam (a1.2.2.2.2.2,[a0.2.2.2.2.1],())) none fun d6=>some ((a1.1,a1.2.1,a1.2.2.1,a1.2.2.2.1,d5,d6),((false,[],[],[],0,0):E),[],[],[])
def Zgh (x:A×(E×Unit)):Option O:=Zwx x.1 x.2.1
def Zsc (a0:A) (a1:E) (a2:Int):Option E:=bif decide (0≤a0.2.2.1) then Za a1.2.1[Int.toNat a0.2.2.1]? none fun d4=>bif decide (0≤a0.2.2.2.1) then Za a1.2.1[Int.toNat a0.2.2.2.1]? none fun d5=>Za (Zh2 (a2,d4,d5,())) none fun d6=>bif a0.2.2.1==a0.2.2.2.1 then Za (ZX (d6.1,d6.2.1,())) none fun d7=>bif decide (d7.1>d7.2) then some ((false,[],[],[],0,0):E) else bif decide (d7.1>d7.2) then some ((false,[],[],[],0,0):E) else Za (Zw (a1,a0.2.2.1,d7,())) none fun d8=>Za (Zw (d8,a0.2.2.2.1,d7,())) none fun d9=>some (d9.1,d9.2.1,d9.2.2.1,d9.2.2.2.1,d9.2.2.2.2.1,d9.2.2.2.2.2) else bif decide (d6.1.1>d6.1.2) then some ((false,[],[],[],0,0):E) else bif decide (d6.2.1.1>d6.2.1.2) then some ((false,[],[],[],0,0):E) else Za (Zw (a1,a0.2.2.1,d6.1,())) none fun d7=>Za (Zw (d7,a0.2.2.2.1,d6.2.1,())) none fun d8=>some (d8.1,d8.2.1,d8.2.2.1,d8.2.2.2.1,d8.2.2.2.2.1,d8.2.2.2.2.2) else none else none
def ZaR (x:(A×(E×(Int×Unit)))):Option E:=Zsc x.1 x.2.1 x.2.2.1
def ZHH (a0:Int):Option Int:=bif a0==1 then some 5 else bif a0==2 then some 6 else bif a0==3 then some 4 else bif a0==4 then some 3 else bif a0==5 then some 1 else bif a0==6 then some 2 else some a0
def ZjS (x:Int×Unit):Option Int:=ZHH x.1
def bR (u:U) (t n:Int) (e:E) (l:List En) (c:C) (a:A):Option O:=bif a.1==1 then Za (Zw (e,a.2.1,(a.2.2.2.2.2.1,a.2.2.2.2.2.1),())) (none) fun d8=>some ((d8.1,d8.2.1,d8.2.2.1,d8.2.2.2.1,d8.2.2.2.2.1,d8.2.2.2.2.2),(false,[],[],[],0,0),[],[],[]) else bif a.1==2 then bif decide (0≤a.2.2.1) then Za e.2.1[Int.toNat a.2.2.1]? (none) fun d8=>Za (Zw (e,a.2.1,d8,())) (none) fun d9=>some ((d9.1,d9.2.1,d9.2.2.1,d9.2.2.2.1,d9.2.2.2.2.1,d9.2.2.2.2.2),(false,[],[],[],0,0),[],[],[]) else none else bif a.1==3 then Za (Zw (e,a.2.1,(-2147483648,2147483647),())) (none) fun d8=>some ((d8.1,d8.2.1,d8.2.2.1,d8.2.2.2.1,d8.2.2.2.2.1,d8.2.2.2.2.2),(false,[],[],[],0,0),[],[],[]) else bif a.1==4 then Za (ZlQ (a,e,())) (none) fun d8=>bif decide (0<(List.length d8.2.2.2.2:Int)) then Za d8.2.2.2.2[Int.toNat 0]? (none) fun d9=>none else some ((d8.1.1,d8.1.2.1,d8.1.2.2.1,d8.1.2.2.2.1,d8.1.2.2.2.2.1,d8.1.2.2.2.2.2),(d8.2.1.1,d8.2.1.2.1,d8.2.1.2.2.1,d8.2.1.2.2.2.1,d8.2.1.2.2.2.2.1,d8.2.1.2.2.2.2.2),d8.2.2.1,d8.2.2.2.1,d8.2.2.2.2) else bif a.1==5 then Za (Qd (t,e,l,false,a.2.2.2.2.1,())) (none) fun d8=>Za (Zw (e,a.2.1,d8,())) (none) fun d9=>some ((d9.1,d9.2.1,d9.2.2.1,d9.2.2.2.1,d9.2.2.2.2.1,d9.2.2.2.2.2),(false,[],[],[],0,0),[],[],[(t,n,false,a.2.2.2.2.1,false,e.2.2.2.2.1)]) else bif a.1==6 then bif decide (((List.length (α:=I) [])+List.length e.2.2.1+1)*16≤lim) then bif decide (0≤a.2.2.1) then Za e.2.1[Int.toNat a.2.2.1]? (none) fun d8=>bif decide (0≤a.2.2.2.2.1) then Za ([]++e.2.2.1)[Int.toNat a.2.2.2.2.1]? (none) fun d9=>
 Za ([]++e.2.2.1)[Int.toNat a.2.2.2.2.1]? (none) fun d10=>bif decide (0≤a.2.2.1) then Za e.2.1[Int.toNat a.2.2.1]? (none) fun d11=>some ((e.1,e.2.1,([]++e.2.2.1).set (Int.toNat a.2.2.2.2.1) d8,e.2.2.2.1,e.2.2.2.2.1,e.2.2.2.2.2),(false,[],[],[],0,0),[],[(t,false,a.2.2.2.2.1,e.2.2.2.2.1,d11.1,d11.2)],[(t,n,false,a.2.2.2.2.1,true,e.2.2.2.2.1)]) else none else none else none else none else bif a.1==7 then bif decide (0≤a.2.2.2.2.1) then Za u.2.1[Int.toNat a.2.2.2.2.1]? (none) fun d8=>bif decide (0≤a.2.2.1) then Za e.2.1[Int.toNat a.2.2.1]? (none) fun d9=>Za (Jx (d9,(0,IntKind.i64.wrap (d8 - 1)),())) (none) fun d10=>bif !d10 then Za (ZX (d9,(0,IntKind.i64.wrap (d8 - 1)),())) (none) fun d11=>bif a.1==8 then bif decide (0≤a.2.2.2.1) then Za e.2.1[Int.toNat a.2.2.2.1]? (none) fun d12=>bif decide (d11.1>d11.2) then some ((false,[],[],[],0,0),(false,[],[],[],0,0),[9],[(t,true,a.2.2.2.2.1,e.2.2.2.2.1,d12.1,d12.2)],[(t,n,true,a.2.2.2.2.1,a.1==8,e.2.2.2.2.1)]) else Za (Zw (e,a.2.2.1,d11,())) (none) fun d13=>bif a.1==7 then Za (Qd (t,d13,l,true,a.2.2.2.2.1,())) (none) fun d14=>Za (Zw (d13,a.2.1,d14,())) (none) fun d15=>some ((d15.1,d15.2.1,d15.2.2.1,d15.2.2.2.1,d15.2.2.2.2.1,d15.2.2.2.2.2),(false,[],[],[],0,0),[9],[(t,true,a.2.2.2.2.1,e.2.2.2.2.1,d12.1,d12.2)],[(t,n,true,a.2.2.2.2.1,a.1==8,e.2.2.2.2.1)]) else bif decide (((List.length (α:=I) [])+List.length d13.2.2.2.1+1)*16≤lim) then bif decide (0≤a.2.2.2.2.1) then Za ([]++d13.2.2.2.1)[Int.toNat a.2.2.2.2.1]? (none) fun d14=>Za ([]++d13.2.2.2.1)[Int.toNat a.2.2.2.2.1]? (none) fun d15=>bif decide (0≤a.2.2.2.1) then
 Za d13.2.1[Int.toNat a.2.2.2.1]? (none) fun d16=>Za (ZH (d15,d16,())) (none) fun d17=>bif decide (0≤a.2.2.2.2.1) then Za ([]++d13.2.2.2.1)[Int.toNat a.2.2.2.2.1]? (none) fun d18=>Za ([]++d13.2.2.2.1)[Int.toNat a.2.2.2.2.1]? (none) fun d19=>some ((d13.1,d13.2.1,d13.2.2.1,([]++d13.2.2.2.1).set (Int.toNat a.2.2.2.2.1) d17,d13.2.2.2.2.1,d13.2.2.2.2.2),(false,[],[],[],0,0),[9],[(t,true,a.2.2.2.2.1,e.2.2.2.2.1,d12.1,d12.2)],[(t,n,true,a.2.2.2.2.1,a.1==8,e.2.2.2.2.1)]) else none else none else none else none else none else bif decide (d11.1>d11.2) then some ((false,[],[],[],0,0),(false,[],[],[],0,0),[9],[],[(t,n,true,a.2.2.2.2.1,a.1==8,e.2.2.2.2.1)]) else Za (Zw (e,a.2.2.1,d11,())) (none) fun d12=>bif a.1==7 then Za (Qd (t,d12,l,true,a.2.2.2.2.1,())) (none) fun d13=>Za (Zw (d12,a.2.1,d13,())) (none) fun d14=>some ((d14.1,d14.2.1,d14.2.2.1,d14.2.2.2.1,d14.2.2.2.2.1,d14.2.2.2.2.2),(false,[],[],[],0,0),[9],[],[(t,n,true,a.2.2.2.2.1,a.1==8,e.2.2.2.2.1)]) else bif decide (((List.length (α:=I) [])+List.length d12.2.2.2.1+1)*16≤lim) then bif decide (0≤a.2.2.2.2.1) then Za ([]++d12.2.2.2.1)[Int.toNat a.2.2.2.2.1]? (none) fun d13=>Za ([]++d12.2.2.2.1)[Int.toNat a.2.2.2.2.1]? (none) fun d14=>bif decide (0≤a.2.2.2.1) then Za d12.2.1[Int.toNat a.2.2.2.1]? (none) fun d15=>Za (ZH (d14,d15,())) (none) fun d16=>bif decide (0≤a.2.2.2.2.1) then Za ([]++d12.2.2.2.1)[Int.toNat a.2.2.2.2.1]? (none) fun d17=>Za ([]++d12.2.2.2.1)[Int.toNat a.2.2.2.2.1]? (none) fun d18=>
 some ((d12.1,d12.2.1,d12.2.2.1,([]++d12.2.2.2.1).set (Int.toNat a.2.2.2.2.1) d16,d12.2.2.2.2.1,d12.2.2.2.2.2),(false,[],[],[],0,0),[9],[],[(t,n,true,a.2.2.2.2.1,a.1==8,e.2.2.2.2.1)]) else none else none else none else none else Za (ZX (d9,(0,IntKind.i64.wrap (d8 - 1)),())) (none) fun d11=>bif a.1==8 then bif decide (0≤a.2.2.2.1) then Za e.2.1[Int.toNat a.2.2.2.1]? (none) fun d12=>bif decide (d11.1>d11.2) then some ((false,[],[],[],0,0),(false,[],[],[],0,0),[],[(t,true,a.2.2.2.2.1,e.2.2.2.2.1,d12.1,d12.2)],[(t,n,true,a.2.2.2.2.1,a.1==8,e.2.2.2.2.1)]) else Za (Zw (e,a.2.2.1,d11,())) (none) fun d13=>bif a.1==7 then Za (Qd (t,d13,l,true,a.2.2.2.2.1,())) (none) fun d14=>Za (Zw (d13,a.2.1,d14,())) (none) fun d15=>some ((d15.1,d15.2.1,d15.2.2.1,d15.2.2.2.1,d15.2.2.2.2.1,d15.2.2.2.2.2),(false,[],[],[],0,0),[],[(t,true,a.2.2.2.2.1,e.2.2.2.2.1,d12.1,d12.2)],[(t,n,true,a.2.2.2.2.1,a.1==8,e.2.2.2.2.1)]) else bif decide (((List.length (α:=I) [])+List.length d13.2.2.2.1+1)*16≤lim) then bif decide (0≤a.2.2.2.2.1) then Za ([]++d13.2.2.2.1)[Int.toNat a.2.2.2.2.1]? (none) fun d14=>Za ([]++d13.2.2.2.1)[Int.toNat a.2.2.2.2.1]? (none) fun d15=>bif decide (0≤a.2.2.2.1) then Za d13.2.1[Int.toNat a.2.2.2.1]? (none) fun d16=>Za (ZH (d15,d16,())) (none) fun d17=>bif decide (0≤a.2.2.2.2.1) then Za ([]++d13.2.2.2.1)[Int.toNat a.2.2.2.2.1]? (none) fun d18=>Za ([]++d13.2.2.2.1)[Int.toNat a.2.2.2.2.1]? (none) fun d19=>
 some ((d13.1,d13.2.1,d13.2.2.1,([]++d13.2.2.2.1).set (Int.toNat a.2.2.2.2.1) d17,d13.2.2.2.2.1,d13.2.2.2.2.2),(false,[],[],[],0,0),[],[(t,true,a.2.2.2.2.1,e.2.2.2.2.1,d12.1,d12.2)],[(t,n,true,a.2.2.2.2.1,a.1==8,e.2.2.2.2.1)]) else none else none else none else none else none else bif decide (d11.1>d11.2) then some ((false,[],[],[],0,0),(false,[],[],[],0,0),[],[],[(t,n,true,a.2.2.2.2.1,a.1==8,e.2.2.2.2.1)]) else Za (Zw (e,a.2.2.1,d11,())) (none) fun d12=>bif a.1==7 then Za (Qd (t,d12,l,true,a.2.2.2.2.1,())) (none) fun d13=>Za (Zw (d12,a.2.1,d13,())) (none) fun d14=>some ((d14.1,d14.2.1,d14.2.2.1,d14.2.2.2.1,d14.2.2.2.2.1,d14.2.2.2.2.2),(false,[],[],[],0,0),[],[],[(t,n,true,a.2.2.2.2.1,a.1==8,e.2.2.2.2.1)]) else bif decide (((List.length (α:=I) [])+List.length d12.2.2.2.1+1)*16≤lim) then bif decide (0≤a.2.2.2.2.1) then Za ([]++d12.2.2.2.1)[Int.toNat a.2.2.2.2.1]? (none) fun d13=>Za ([]++d12.2.2.2.1)[Int.toNat a.2.2.2.2.1]? (none) fun d14=>bif decide (0≤a.2.2.2.1) then Za d12.2.1[Int.toNat a.2.2.2.1]? (none) fun d15=>Za (ZH (d14,d15,())) (none) fun d16=>bif decide (0≤a.2.2.2.2.1) then Za ([]++d12.2.2.2.1)[Int.toNat a.2.2.2.2.1]? (none) fun d17=>Za ([]++d12.2.2.2.1)[Int.toNat a.2.2.2.2.1]? (none) fun d18=>some ((d12.1,d12.2.1,d12.2.2.1,([]++d12.2.2.2.1).set (Int.toNat a.2.2.2.2.1) d16,d12.2.2.2.2.1,d12.2.2.2.2.2),(false,[],[],[],0,0),[],[],[(t,n,true,a.2.2.2.2.1,a.1==8,e.2.2.2.2.1)]) else none else none else none else none else none else none else bif a.1==8 then bif decide (0≤a.2.2.2.2.1) then Za u.2.1[Int.toNat a.2.2.2.2.1]? (none) fun d8=>bif decide (0≤a.2.2.1) then
 Za e.2.1[Int.toNat a.2.2.1]? (none) fun d9=>Za (Jx (d9,(0,IntKind.i64.wrap (d8 - 1)),())) (none) fun d10=>bif !d10 then Za (ZX (d9,(0,IntKind.i64.wrap (d8 - 1)),())) (none) fun d11=>bif a.1==8 then bif decide (0≤a.2.2.2.1) then Za e.2.1[Int.toNat a.2.2.2.1]? (none) fun d12=>bif decide (d11.1>d11.2) then some ((false,[],[],[],0,0),(false,[],[],[],0,0),[9],[(t,true,a.2.2.2.2.1,e.2.2.2.2.1,d12.1,d12.2)],[(t,n,true,a.2.2.2.2.1,a.1==8,e.2.2.2.2.1)]) else Za (Zw (e,a.2.2.1,d11,())) (none) fun d13=>bif a.1==7 then Za (Qd (t,d13,l,true,a.2.2.2.2.1,())) (none) fun d14=>Za (Zw (d13,a.2.1,d14,())) (none) fun d15=>some ((d15.1,d15.2.1,d15.2.2.1,d15.2.2.2.1,d15.2.2.2.2.1,d15.2.2.2.2.2),(false,[],[],[],0,0),[9],[(t,true,a.2.2.2.2.1,e.2.2.2.2.1,d12.1,d12.2)],[(t,n,true,a.2.2.2.2.1,a.1==8,e.2.2.2.2.1)]) else bif decide (((List.length (α:=I) [])+List.length d13.2.2.2.1+1)*16≤lim) then bif decide (0≤a.2.2.2.2.1) then Za ([]++d13.2.2.2.1)[Int.toNat a.2.2.2.2.1]? (none) fun d14=>Za ([]++d13.2.2.2.1)[Int.toNat a.2.2.2.2.1]? (none) fun d15=>bif decide (0≤a.2.2.2.1) then Za d13.2.1[Int.toNat a.2.2.2.1]? (none) fun d16=>Za (ZH (d15,d16,())) (none) fun d17=>bif decide (0≤a.2.2.2.2.1) then Za ([]++d13.2.2.2.1)[Int.toNat a.2.2.2.2.1]? (none) fun d18=>Za ([]++d13.2.2.2.1)[Int.toNat a.2.2.2.2.1]? (none) fun d19=>some ((d13.1,d13.2.1,d13.2.2.1,([]++d13.2.2.2.1).set (Int.toNat a.2.2.2.2.1) d17,d13.2.2.2.2.1,d13.2.2.2.2.2),(false,[],[],[],0,0),[9],[(t,true,a.2.2.2.2.1,e.2.2.2.2.1,d12.1,d12.2)],[(t,n,true,a.2.2.2.2.1,a.1==8,e.2.2.2.2.1)]) else none else none else none
 else none else none else bif decide (d11.1>d11.2) then some ((false,[],[],[],0,0),(false,[],[],[],0,0),[9],[],[(t,n,true,a.2.2.2.2.1,a.1==8,e.2.2.2.2.1)]) else Za (Zw (e,a.2.2.1,d11,())) (none) fun d12=>bif a.1==7 then Za (Qd (t,d12,l,true,a.2.2.2.2.1,())) (none) fun d13=>Za (Zw (d12,a.2.1,d13,())) (none) fun d14=>some ((d14.1,d14.2.1,d14.2.2.1,d14.2.2.2.1,d14.2.2.2.2.1,d14.2.2.2.2.2),(false,[],[],[],0,0),[9],[],[(t,n,true,a.2.2.2.2.1,a.1==8,e.2.2.2.2.1)]) else bif decide (((List.length (α:=I) [])+List.length d12.2.2.2.1+1)*16≤lim) then bif decide (0≤a.2.2.2.2.1) then Za ([]++d12.2.2.2.1)[Int.toNat a.2.2.2.2.1]? (none) fun d13=>Za ([]++d12.2.2.2.1)[Int.toNat a.2.2.2.2.1]? (none) fun d14=>bif decide (0≤a.2.2.2.1) then Za d12.2.1[Int.toNat a.2.2.2.1]? (none) fun d15=>Za (ZH (d14,d15,())) (none) fun d16=>bif decide (0≤a.2.2.2.2.1) then Za ([]++d12.2.2.2.1)[Int.toNat a.2.2.2.2.1]? (none) fun d17=>Za ([]++d12.2.2.2.1)[Int.toNat a.2.2.2.2.1]? (none) fun d18=>some ((d12.1,d12.2.1,d12.2.2.1,([]++d12.2.2.2.1).set (Int.toNat a.2.2.2.2.1) d16,d12.2.2.2.2.1,d12.2.2.2.2.2),(false,[],[],[],0,0),[9],[],[(t,n,true,a.2.2.2.2.1,a.1==8,e.2.2.2.2.1)]) else none else none else none else none else Za (ZX (d9,(0,IntKind.i64.wrap (d8 - 1)),())) (none) fun d11=>bif a.1==8 then bif decide (0≤a.2.2.2.1) then Za e.2.1[Int.toNat a.2.2.2.1]? (none) fun d12=>bif decide (d11.1>d11.2) then some ((false,[],[],[],0,0),(false,[],[],[],0,0),[],[(t,true,a.2.2.2.2.1,e.2.2.2.2.1,d12.1,d12.2)],[(t,n,true,a.2.2.2.2.1,a.1==8,e.2.2.2.2.1)])
 else Za (Zw (e,a.2.2.1,d11,())) (none) fun d13=>bif a.1==7 then Za (Qd (t,d13,l,true,a.2.2.2.2.1,())) (none) fun d14=>Za (Zw (d13,a.2.1,d14,())) (none) fun d15=>some ((d15.1,d15.2.1,d15.2.2.1,d15.2.2.2.1,d15.2.2.2.2.1,d15.2.2.2.2.2),(false,[],[],[],0,0),[],[(t,true,a.2.2.2.2.1,e.2.2.2.2.1,d12.1,d12.2)],[(t,n,true,a.2.2.2.2.1,a.1==8,e.2.2.2.2.1)]) else bif decide (((List.length (α:=I) [])+List.length d13.2.2.2.1+1)*16≤lim) then bif decide (0≤a.2.2.2.2.1) then Za ([]++d13.2.2.2.1)[Int.toNat a.2.2.2.2.1]? (none) fun d14=>Za ([]++d13.2.2.2.1)[Int.toNat a.2.2.2.2.1]? (none) fun d15=>bif decide (0≤a.2.2.2.1) then Za d13.2.1[Int.toNat a.2.2.2.1]? (none) fun d16=>Za (ZH (d15,d16,())) (none) fun d17=>bif decide (0≤a.2.2.2.2.1) then Za ([]++d13.2.2.2.1)[Int.toNat a.2.2.2.2.1]? (none) fun d18=>Za ([]++d13.2.2.2.1)[Int.toNat a.2.2.2.2.1]? (none) fun d19=>some ((d13.1,d13.2.1,d13.2.2.1,([]++d13.2.2.2.1).set (Int.toNat a.2.2.2.2.1) d17,d13.2.2.2.2.1,d13.2.2.2.2.2),(false,[],[],[],0,0),[],[(t,true,a.2.2.2.2.1,e.2.2.2.2.1,d12.1,d12.2)],[(t,n,true,a.2.2.2.2.1,a.1==8,e.2.2.2.2.1)]) else none else none else none else none else none else bif decide (d11.1>d11.2) then some ((false,[],[],[],0,0),(false,[],[],[],0,0),[],[],[(t,n,true,a.2.2.2.2.1,a.1==8,e.2.2.2.2.1)]) else Za (Zw (e,a.2.2.1,d11,())) (none) fun d12=>bif a.1==7 then Za (Qd (t,d12,l,true,a.2.2.2.2.1,())) (none) fun d13=>Za (Zw (d12,a.2.1,d13,())) (none) fun d14=>
 some ((d14.1,d14.2.1,d14.2.2.1,d14.2.2.2.1,d14.2.2.2.2.1,d14.2.2.2.2.2),(false,[],[],[],0,0),[],[],[(t,n,true,a.2.2.2.2.1,a.1==8,e.2.2.2.2.1)]) else bif decide (((List.length (α:=I) [])+List.length d12.2.2.2.1+1)*16≤lim) then bif decide (0≤a.2.2.2.2.1) then Za ([]++d12.2.2.2.1)[Int.toNat a.2.2.2.2.1]? (none) fun d13=>Za ([]++d12.2.2.2.1)[Int.toNat a.2.2.2.2.1]? (none) fun d14=>bif decide (0≤a.2.2.2.1) then Za d12.2.1[Int.toNat a.2.2.2.1]? (none) fun d15=>Za (ZH (d14,d15,())) (none) fun d16=>bif decide (0≤a.2.2.2.2.1) then Za ([]++d12.2.2.2.1)[Int.toNat a.2.2.2.2.1]? (none) fun d17=>Za ([]++d12.2.2.2.1)[Int.toNat a.2.2.2.2.1]? (none) fun d18=>some ((d12.1,d12.2.1,d12.2.2.1,([]++d12.2.2.2.1).set (Int.toNat a.2.2.2.2.1) d16,d12.2.2.2.2.1,d12.2.2.2.2.2),(false,[],[],[],0,0),[],[],[(t,n,true,a.2.2.2.2.1,a.1==8,e.2.2.2.2.1)]) else none else none else none else none else none else none else bif a.1==9 then Za (Zjc (t,a,e,l,())) (none) fun d8=>bif decide (0<(List.length d8.2.2.2.2:Int)) then Za d8.2.2.2.2[Int.toNat 0]? (none) fun d9=>none else some ((d8.1.1,d8.1.2.1,d8.1.2.2.1,d8.1.2.2.2.1,d8.1.2.2.2.2.1,d8.1.2.2.2.2.2),(d8.2.1.1,d8.2.1.2.1,d8.2.1.2.2.1,d8.2.1.2.2.2.1,d8.2.1.2.2.2.2.1,d8.2.1.2.2.2.2.2),d8.2.2.1,d8.2.2.2.1,d8.2.2.2.2) else bif a.1==10 then Za (Zgh (a,e,())) (none) fun d8=>bif decide (0<(List.length d8.2.2.2.2:Int)) then Za d8.2.2.2.2[Int.toNat 0]? (none) fun d9=>none else some ((d8.1.1,d8.1.2.1,d8.1.2.2.1,d8.1.2.2.2.1,d8.1.2.2.2.2.1,d8.1.2.2.2.2.2),(d8.2.1.1,d8.2.1.2.1,d8.2.1.2.2.1,d8.2.1.2.2.2.1,d8.2.1.2.2.2.2.1,d8.2.1.2.2.2.2.2),d8.2.2.1,d8.2.2.2.1,d8.2.2.2.2) else bif a.1==11 then
 Za (ZaR (a,e,a.2.2.2.2.2.2.1,())) (none) fun d8=>Za (ZjS (a.2.2.2.2.2.2.1,())) (none) fun d9=>Za (ZaR (a,e,d9,())) (none) fun d10=>some ((d8.1,d8.2.1,d8.2.2.1,d8.2.2.2.1,d8.2.2.2.2.1,d8.2.2.2.2.2),(d10.1,d10.2.1,d10.2.2.1,d10.2.2.2.1,d10.2.2.2.2.1,d10.2.2.2.2.2),[],[],[]) else bif a.1==13 then some ((false,[],[],[],0,0),(false,[],[],[],0,0),[10],[],[]) else bif a.1==14 then some ((false,[],[],[],0,0),(false,[],[],[],0,0),[],[],[]) else some ((e.1,e.2.1,e.2.2.1,e.2.2.2.1,e.2.2.2.2.1,e.2.2.2.2.2),(false,[],[],[],0,0),[],[],[])
def ZjW (a0:U) (a1 a2:Int) (a3:E) (a4:List En):Option O:=bif !a3.1 then some (((false,[],[],[],0,0):E),((false,[],[],[],0,0):E),[],[],[]) else bif decide (0≤a1) then Za a0.2.2.2[a1.toNat]? none fun d6=>bif decide (0≤a2) then Za d6.2[a2.toNat]? none fun d7=>bR a0 a1 a2 a3 a4 d6 d7 else none else none
def Zaz (x:(U×(Int×(Int×(E×((List En)×Unit)))))):Option O:=ZjW x.1 x.2.1 x.2.2.1 x.2.2.2.1 x.2.2.2.2.1
theorem ZMe (u:U) (t n:Int) (e:E) (l:List En) (c:C) (a:A) (h0:0≤t) (hc:u.2.2.2[t.toNat]? = some c) (h1:0≤n) (ha:c.2[n.toNat]? = some a) (he:e.1=true):Wy u t n e l=bF u t n e l c a:=by
 have e0:decide (0≤t)=true:=dT0 h0
 have e1:decide (0≤n)=true:=dT0 h1
 have e2:(!e.1)=false:=by rw [he];rfl
 unfold Wy
 rw [e0,hc,e1,cond_true,Zc,cond_true,ha,Zc]
 show (bif e.1 then _ else _)=_
 exact (congrArg (fun b=>bif b then bF u t n e l c a else _) he)
theorem F_1 (u:U) (t n:Int) (e:E) (l:List En) (c:C) (T X Y G N op nx el:Int):bF u t n e l c (1,T,X,Y,G,N,op,nx,el) =
 Za (ZkZ ([N],())) (none) fun d8=>
  bif decide (((List.length (α:=I) [])+List.length e.2.1+1)*16≤lim) then
  bif decide (0≤T) then
  Za ([]++e.2.1)[Int.toNat T]? (none) fun d9=>
  Za ([]++e.2.1)[Int.toNat T]? (none) fun d10=>
  some ((e.1,([]++e.2.1).set (Int.toNat T) d8,e.2.2.1,e.2.2.2.1,e.2.2.2.2.1,e.2.2.2.2.2),(false,[],[],[],0,0),[],[],[])
 else none
 else none:=by kernel_rfl
theorem F_2 (u:U) (t n:Int) (e:E) (l:List En) (c:C) (T X Y G N op nx el:Int):bF u t n e l c (2,T,X,Y,G,N,op,nx,el) =
 bif decide (0≤X) then
  Za e.2.1[Int.toNat X]? (none) fun d8=>
  bif decide (((List.length (α:=I) [])+List.length e.2.1+1)*16≤lim) then
  bif decide (0≤T) then
  Za ([]++e.2.1)[Int.toNat T]? (none) fun d9=>
  Za ([]++e.2.1)[Int.toNat T]? (none) fun d10=>
  some ((e.1,([]++e.2.1).set (Int.toNat T) d8,e.2.2.1,e.2.2.2.1,e.2.2.2.2.1,e.2.2.2.2.2),(false,[],[],[],0,0),[],[],[])
 else none
 else none
 else none:=by kernel_rfl
theorem F_3 (u:U) (t n:Int) (e:E) (l:List En) (c:C) (T X Y G N op nx el:Int):bF u t n e l c (3,T,X,Y,G,N,op,nx,el) =
 bif decide (((List.length (α:=I) [])+List.length e.2.1+1)*16≤lim) then
  bif decide (0≤T) then
  Za ([]++e.2.1)[Int.toNat T]? (none) fun d8=>
  Za ([]++e.2.1)[Int.toNat T]? (none) fun d9=>
  some ((e.1,([]++e.2.1).set (Int.toNat T) (-2147483648,2147483647),e.2.2.1,e.2.2.2.1,e.2.2.2.2.1,e.2.2.2.2.2),(false,[],[],[],0,0),[],[],[])
 else none
 else none:=by kernel_rfl
theorem F_4 (u:U) (t n:Int) (e:E) (l:List En) (c:C) (T X Y G N op nx el:Int):bF u t n e l c (4,T,X,Y,G,N,op,nx,el) =
 bif decide (0≤X) then
  Za e.2.1[Int.toNat X]? (none) fun d8=>
  bif decide (0≤Y) then
  Za e.2.1[Int.toNat Y]? (none) fun d9=>
  Za (ZnP (op,d8,d9,())) (none) fun d10=>
  bif d10.2.1 then
  bif d10.2.2.1 then
  bif !decide (d10.1.1>d10.1.2) then
  bif decide (((List.length (α:=I) [])+List.length e.2.1+1)*16≤lim) then
  bif decide (0≤T) then
  Za ([]++e.2.1)[Int.toNat T]? (none) fun d11=>
  Za ([]++e.2.1)[Int.toNat T]? (none) fun d12=>
  some ((e.1,([]++e.2.1).set (Int.toNat T) d10.1,e.2.2.1,e.2.2.2.1,e.2.2.2.2.1,e.2.2.2.2.2),(false,[],[],[],0,0),[7,8],[],[])
 else none
 else none
 else some ((false,[],[],[],0,0),(false,[],[],[],0,0),[7,8],[],[])
 else bif !decide (d10.1.1>d10.1.2) then
  bif decide (((List.length (α:=I) [])+List.length e.2.1+1)*16≤lim) then
  bif decide (0≤T) then
  Za ([]++e.2.1)[Int.toNat T]? (none) fun d11=>
  Za ([]++e.2.1)[Int.toNat T]? (none) fun d12=>
  some ((e.1,([]++e.2.1).set (Int.toNat T) d10.1,e.2.2.1,e.2.2.2.1,e.2.2.2.2.1,e.2.2.2.2.2),(false,[],[],[],0,0),[7],[],[])
 else none
 else none
 else some ((false,[],[],[],0,0),(false,[],[],[],0,0),[7],[],[])
 else bif d10.2.2.1 then
  bif !decide (d10.1.1>d10.1.2) then
  bif decide (((List.length (α:=I) [])+List.length e.2.1+1)*16≤lim) then
  bif decide (0≤T) then
  Za ([]++e.2.1)[Int.toNat T]? (none) fun d11=>
  Za ([]++e.2.1)[Int.toNat T]? (none) fun d12=>
  some ((e.1,([]++e.2.1).set (Int.toNat T) d10.1,e.2.2.1,e.2.2.2.1,e.2.2.2.2.1,e.2.2.2.2.2),(false,[],[],[],0,0),[8],[],[])
 else none
 else none
 else some ((false,[],[],[],0,0),(false,[],[],[],0,0),[8],[],[])
 else bif !decide (d10.1.1>d10.1.2) then
  bif decide (((List.length (α:=I) [])+List.length e.2.1+1)*16≤lim) then
  bif decide (0≤T) then
  Za ([]++e.2.1)[Int.toNat T]? (none) fun d11=>
  Za ([]++e.2.1)[Int.toNat T]? (none) fun d12=>
  some ((e.1,([]++e.2.1).set (Int.toNat T) d10.1,e.2.2.1,e.2.2.2.1,e.2.2.2.2.1,e.2.2.2.2.2),(false,[],[],[],0,0),[],[],[])
 else none
 else none
 else some ((false,[],[],[],0,0),(false,[],[],[],0,0),[],[],[])
 else none
 else none:=by kernel_rfl
theorem F_5 (u:U) (t n:Int) (e:E) (l:List En) (c:C) (T X Y G N op nx el:Int):bF u t n e l c (5,T,X,Y,G,N,op,nx,el) =
 Za (Qb (u,t,e,l,false,G,())) (none) fun d8=>
  bif decide (((List.length (α:=I) [])+List.length e.2.1+1)*16≤lim) then
  bif decide (0≤T) then
  Za ([]++e.2.1)[Int.toNat T]? (none) fun d9=>
  Za ([]++e.2.1)[Int.toNat T]? (none) fun d10=>
  some ((e.1,([]++e.2.1).set (Int.toNat T) d8,e.2.2.1,e.2.2.2.1,e.2.2.2.2.1,e.2.2.2.2.2),(false,[],[],[],0,0),[],[],[(t,n,false,G,false,e.2.2.2.2.1)])
 else none
 else none:=by kernel_rfl
theorem F_6 (u:U) (t n:Int) (e:E) (l:List En) (c:C) (T X Y G N op nx el:Int):bF u t n e l c (6,T,X,Y,G,N,op,nx,el) =
 bif decide (0≤X) then
  Za e.2.1[Int.toNat X]? (none) fun d8=>
  bif decide (((List.length (α:=I) [])+List.length e.2.2.1+1)*16≤lim) then
  bif decide (0≤G) then
  Za ([]++e.2.2.1)[Int.toNat G]? (none) fun d9=>
  Za ([]++e.2.2.1)[Int.toNat G]? (none) fun d10=>
  some ((e.1,e.2.1,([]++e.2.2.1).set (Int.toNat G) d8,e.2.2.2.1,e.2.2.2.2.1,e.2.2.2.2.2),(false,[],[],[],0,0),[],[(t,false,G,e.2.2.2.2.1,d8.1,d8.2)],[(t,n,false,G,true,e.2.2.2.2.1)])
 else none
 else none
 else none:=by kernel_rfl
theorem F_7 (u:U) (t n:Int) (e:E) (l:List En) (c:C) (T X Y G N op nx el:Int):bF u t n e l c (7,T,X,Y,G,N,op,nx,el) =
 bif decide (0≤G) then
  Za u.2.1[Int.toNat G]? (none) fun d8=>
  bif decide (0≤X) then
  Za e.2.1[Int.toNat X]? (none) fun d9=>
  Za (Qp (d9,(0,IntKind.i64.wrap (d8 - 1)),())) (none) fun d10=>
  bif !d10 then
  Za (ZC (d9,(0,IntKind.i64.wrap (d8 - 1)),())) (none) fun d11=>
  bif decide (d11.1>d11.2) then
  some ((false,[],[],[],0,0),(false,[],[],[],0,0),[9],[],[(t,n,true,G,7==8,e.2.2.2.2.1)])
 else bif decide (((List.length (α:=I) [])+List.length e.2.1+1)*16≤lim) then
  bif decide (0≤X) then
  Za ([]++e.2.1)[Int.toNat X]? (none) fun d12=>
  Za ([]++e.2.1)[Int.toNat X]? (none) fun d13=>
  Za (Qb (u,t,(e.1,([]++e.2.1).set (Int.toNat X) d11,e.2.2),l,true,G,())) (none) fun d14=>
  bif decide (((List.length (α:=I) [])+(([]++e.2.1).set (Int.toNat X) d11).length+1)*16≤lim) then
  bif decide (0≤T) then
  Za ([]++([]++e.2.1).set (Int.toNat X) d11)[Int.toNat T]? (none) fun d15=>
  Za ([]++([]++e.2.1).set (Int.toNat X) d11)[Int.toNat T]? (none) fun d16=>
  some ((e.1,([]++([]++e.2.1).set (Int.toNat X) d11).set (Int.toNat T) d14,e.2.2.1,e.2.2.2.1,e.2.2.2.2.1,e.2.2.2.2.2),(false,[],[],[],0,0),[9],[],[(t,n,true,G,7==8,e.2.2.2.2.1)])
 else none
 else none
 else none
 else none
 else Za (ZC (d9,(0,IntKind.i64.wrap (d8 - 1)),())) (none) fun d11=>
  bif decide (d11.1>d11.2) then
  some ((false,[],[],[],0,0),(false,[],[],[],0,0),[],[],[(t,n,true,G,7==8,e.2.2.2.2.1)])
 else bif decide (((List.length (α:=I) [])+List.length e.2.1+1)*16≤lim) then
  bif decide (0≤X) then
  Za ([]++e.2.1)[Int.toNat X]? (none) fun d12=>
  Za ([]++e.2.1)[Int.toNat X]? (none) fun d13=>
  Za (Qb (u,t,(e.1,([]++e.2.1).set (Int.toNat X) d11,e.2.2),l,true,G,())) (none) fun d14=>
  bif decide (((List.length (α:=I) [])+(([]++e.2.1).set (Int.toNat X) d11).length+1)*16≤lim) then
  bif decide (0≤T) then
  Za ([]++([]++e.2.1).set (Int.toNat X) d11)[Int.toNat T]? (none) fun d15=>
  Za ([]++([]++e.2.1).set (Int.toNat X) d11)[Int.toNat T]? (none) fun d16=>
  some ((e.1,([]++([]++e.2.1).set (Int.toNat X) d11).set (Int.toNat T) d14,e.2.2.1,e.2.2.2.1,e.2.2.2.2.1,e.2.2.2.2.2),(false,[],[],[],0,0),[],[],[(t,n,true,G,7==8,e.2.2.2.2.1)])
 else none
 else none
 else none
 else none
 else none
 else none:=by kernel_rfl
theorem F_8 (u:U) (t n:Int) (e:E) (l:List En) (c:C) (T X Y G N op nx el:Int):bF u t n e l c (8,T,X,Y,G,N,op,nx,el) =
 bif decide (0≤G) then
  Za u.2.1[Int.toNat G]? (none) fun d8=>
  bif decide (0≤X) then
  Za e.2.1[Int.toNat X]? (none) fun d9=>
  Za (Qp (d9,(0,IntKind.i64.wrap (d8 - 1)),())) (none) fun d10=>
  bif !d10 then
  bif decide (0≤Y) then
  Za e.2.1[Int.toNat Y]? (none) fun d11=>
  Za (ZC (d9,(0,IntKind.i64.wrap (d8 - 1)),())) (none) fun d12=>
  bif decide (d12.1>d12.2) then
  some ((false,[],[],[],0,0),(false,[],[],[],0,0),[9],[(t,true,G,e.2.2.2.2.1,d11.1,d11.2)],[(t,n,true,G,8==8,e.2.2.2.2.1)])
 else bif decide (((List.length (α:=I) [])+List.length e.2.1+1)*16≤lim) then
  bif decide (0≤X) then
  Za ([]++e.2.1)[Int.toNat X]? (none) fun d13=>
  Za ([]++e.2.1)[Int.toNat X]? (none) fun d14=>
  bif decide (((List.length (α:=I) [])+List.length e.2.2.2.1+1)*16≤lim) then
  bif decide (0≤G) then
  Za ([]++e.2.2.2.1)[Int.toNat G]? (none) fun d15=>
  Za ([]++e.2.2.2.1)[Int.toNat G]? (none) fun d16=>
  bif decide (0≤Y) then
  Za (([]++e.2.1).set (Int.toNat X) d12)[Int.toNat Y]? (none) fun d17=>
  Za (([]++e.2.1).set (Int.toNat X) d12)[Int.toNat Y]? (none) fun d18=>
  Za (ZM ([d16,d18],())) (none) fun d19=>
  bif decide (0≤G) then
  Za ([]++e.2.2.2.1)[Int.toNat G]? (none) fun d20=>
  Za ([]++e.2.2.2.1)[Int.toNat G]? (none) fun d21=>
  some ((e.1,([]++e.2.1).set (Int.toNat X) d12,e.2.2.1,([]++e.2.2.2.1).set (Int.toNat G) d19,e.2.2.2.2.1,e.2.2.2.2.2),(false,[],[],[],0,0),[9],[(t,true,G,e.2.2.2.2.1,d11.1,d11.2)],[(t,n,true,G,8==8,e.2.2.2.2.1)])
 else none
 else none
 else none
 else none
 else none
 else none
 else none
 else bif decide (0≤Y) then
  Za e.2.1[Int.toNat Y]? (none) fun d11=>
  Za (ZC (d9,(0,IntKind.i64.wrap (d8 - 1)),())) (none) fun d12=>
  bif decide (d12.1>d12.2) then
  some ((false,[],[],[],0,0),(false,[],[],[],0,0),[],[(t,true,G,e.2.2.2.2.1,d11.1,d11.2)],[(t,n,true,G,8==8,e.2.2.2.2.1)])
 else bif decide (((List.length (α:=I) [])+List.length e.2.1+1)*16≤lim) then
  bif decide (0≤X) then
  Za ([]++e.2.1)[Int.toNat X]? (none) fun d13=>
  Za ([]++e.2.1)[Int.toNat X]? (none) fun d14=>
  bif decide (((List.length (α:=I) [])+List.length e.2.2.2.1+1)*16≤lim) then
  bif decide (0≤G) then
  Za ([]++e.2.2.2.1)[Int.toNat G]? (none) fun d15=>
  Za ([]++e.2.2.2.1)[Int.toNat G]? (none) fun d16=>
  bif decide (0≤Y) then
  Za (([]++e.2.1).set (Int.toNat X) d12)[Int.toNat Y]? (none) fun d17=>
  Za (([]++e.2.1).set (Int.toNat X) d12)[Int.toNat Y]? (none) fun d18=>
  Za (ZM ([d16,d18],())) (none) fun d19=>
  bif decide (0≤G) then
  Za ([]++e.2.2.2.1)[Int.toNat G]? (none) fun d20=>
  Za ([]++e.2.2.2.1)[Int.toNat G]? (none) fun d21=>
  some ((e.1,([]++e.2.1).set (Int.toNat X) d12,e.2.2.1,([]++e.2.2.2.1).set (Int.toNat G) d19,e.2.2.2.2.1,e.2.2.2.2.2),(false,[],[],[],0,0),[],[(t,true,G,e.2.2.2.2.1,d11.1,d11.2)],[(t,n,true,G,8==8,e.2.2.2.2.1)])
 else none
 else none
 else none
 else none
 else none
 else none
 else none
 else none
 else none:=by kernel_rfl
theorem F_9 (u:U) (t n:Int) (e:E) (l:List En) (c:C) (T X Y G N op nx el:Int):bF u t n e l c (9,T,X,Y,G,N,op,nx,el) =
 Za (ZY (e.2.2.2.2.2,G,())) (none) fun d8=>
  bif d8 then
  Za (ZY (e.2.2.2.2.1,G,())) (none) fun d9=>
  bif d9 then
  some ((false,[],[],[],0,0),(false,[],[],[],0,0),[11],[],[])
 else Za (Z7 ((9,T,X,Y,G,N,op,nx,el,u.1,u.2.1,u.2.2.1,u.2.2.2,t,n,e.1,e.2.1,e.2.2.1,e.2.2.2.1,e.2.2.2.2.1,e.2.2.2.2.2,l,false,[],[],[],0,0,false,[],[],[],0,0,[11],[],[],()),e.2.2.1,false,())) (none) fun d10=>
  Za (Z7 ((9,T,X,Y,G,N,op,nx,el,u.1,u.2.1,u.2.2.1,u.2.2.2,t,n,e.1,e.2.1,e.2.2.1,e.2.2.2.1,e.2.2.2.2.1,e.2.2.2.2.2,l,false,[],[],[],0,0,false,[],[],[],0,0,[11],[],[],()),e.2.2.2.1,true,())) (none) fun d11=>
  Za (KH (e.2.2.2.2.1,[G],())) (none) fun d12=>
  Za (KH (e.2.2.2.2.2,[G],())) (none) fun d13=>
  some ((e.1,e.2.1,d10,d11,d12,d13),(false,[],[],[],0,0),[11],[],[])
 else Za (ZY (e.2.2.2.2.1,G,())) (none) fun d9=>
  bif d9 then
  some ((false,[],[],[],0,0),(false,[],[],[],0,0),[],[],[])
 else Za (Z7 ((9,T,X,Y,G,N,op,nx,el,u.1,u.2.1,u.2.2.1,u.2.2.2,t,n,e.1,e.2.1,e.2.2.1,e.2.2.2.1,e.2.2.2.2.1,e.2.2.2.2.2,l,false,[],[],[],0,0,false,[],[],[],0,0,[],[],[],()),e.2.2.1,false,())) (none) fun d10=>
  Za (Z7 ((9,T,X,Y,G,N,op,nx,el,u.1,u.2.1,u.2.2.1,u.2.2.2,t,n,e.1,e.2.1,e.2.2.1,e.2.2.2.1,e.2.2.2.2.1,e.2.2.2.2.2,l,false,[],[],[],0,0,false,[],[],[],0,0,[],[],[],()),e.2.2.2.1,true,())) (none) fun d11=>
  Za (KH (e.2.2.2.2.1,[G],())) (none) fun d12=>
  Za (KH (e.2.2.2.2.2,[G],())) (none) fun d13=>
  some ((e.1,e.2.1,d10,d11,d12,d13),(false,[],[],[],0,0),[],[],[]):=by kernel_rfl
theorem ZWO (u:U) (t n:Int) (e:E) (l:List En) (c:C) (T X Y G N op nx el:Int):bF u t n e l c (10,T,X,Y,G,N,op,nx,el) =
 Za (ZY (e.2.2.2.2.1,G,())) (none) fun d8=>
  bif !d8 then
  Za (ZY (e.2.2.2.2.2,G,())) (none) fun d9=>
  bif !d9 then
  some ((false,[],[],[],0,0),(false,[],[],[],0,0),[12],[],[])
 else Za (Qx (e.2.2.2.2.1,[G],())) (none) fun d10=>
  Za (Qx (e.2.2.2.2.2,[G],())) (none) fun d11=>
  some ((e.1,e.2.1,e.2.2.1,e.2.2.2.1,d10,d11),(false,[],[],[],0,0),[12],[],[])
 else Za (ZY (e.2.2.2.2.2,G,())) (none) fun d9=>
  bif !d9 then
  some ((false,[],[],[],0,0),(false,[],[],[],0,0),[],[],[])
 else Za (Qx (e.2.2.2.2.1,[G],())) (none) fun d10=>
  Za (Qx (e.2.2.2.2.2,[G],())) (none) fun d11=>
  some ((e.1,e.2.1,e.2.2.1,e.2.2.2.1,d10,d11),(false,[],[],[],0,0),[],[],[]):=by kernel_rfl
theorem ZRe (u:U) (t n:Int) (e:E) (l:List En) (c:C) (T X Y G N op nx el:Int):bF u t n e l c (11,T,X,Y,G,N,op,nx,el) =
 bif decide (0≤X) then
  Za e.2.1[Int.toNat X]? (none) fun d8=>
  bif decide (0≤Y) then
  Za e.2.1[Int.toNat Y]? (none) fun d9=>
  Za (ZW (op,d8,d9,())) (none) fun d10=>
  bif X==Y then
  Za (ZC (d10.1,d10.2.1,())) (none) fun d11=>
  bif decide (d11.1>d11.2) then
  Za (QR (op,())) (none) fun d12=>
  bif decide (0≤X) then
  Za e.2.1[Int.toNat X]? (none) fun d13=>
  bif decide (0≤Y) then
  Za e.2.1[Int.toNat Y]? (none) fun d14=>
  Za (ZW (d12,d13,d14,())) (none) fun d15=>
  bif X==Y then
  Za (ZC (d15.1,d15.2.1,())) (none) fun d16=>
  bif decide (d16.1>d16.2) then
  some ((false,[],[],[],0,0),(false,[],[],[],0,0),[],[],[])
 else bif decide (d16.1>d16.2) then
  some ((false,[],[],[],0,0),(false,[],[],[],0,0),[],[],[])
 else bif decide (((List.length (α:=I) [])+List.length e.2.1+1)*16≤lim) then
  bif decide (0≤X) then
  Za ([]++e.2.1)[Int.toNat X]? (none) fun d17=>
  Za ([]++e.2.1)[Int.toNat X]? (none) fun d18=>
  bif decide (0≤Y) then
  Za (([]++e.2.1).set (Int.toNat X) d16)[Int.toNat Y]? (none) fun d19=>
  Za (([]++e.2.1).set (Int.toNat X) d16)[Int.toNat Y]? (none) fun d20=>
  some ((false,[],[],[],0,0),(e.1,(([]++e.2.1).set (Int.toNat X) d16).set (Int.toNat Y) d16,e.2.2.1,e.2.2.2.1,e.2.2.2.2.1,e.2.2.2.2.2),[],[],[])
 else none
 else none
 else none
 else bif decide (d15.1.1>d15.1.2) then
  some ((false,[],[],[],0,0),(false,[],[],[],0,0),[],[],[])
 else bif decide (d15.2.1.1>d15.2.1.2) then
  some ((false,[],[],[],0,0),(false,[],[],[],0,0),[],[],[])
 else bif decide (((List.length (α:=I) [])+List.length e.2.1+1)*16≤lim) then
  bif decide (0≤X) then
  Za ([]++e.2.1)[Int.toNat X]? (none) fun d16=>
  Za ([]++e.2.1)[Int.toNat X]? (none) fun d17=>
  bif decide (0≤Y) then
  Za (([]++e.2.1).set (Int.toNat X) d15.1)[Int.toNat Y]? (none) fun d18=>
  Za (([]++e.2.1).set (Int.toNat X) d15.1)[Int.toNat Y]? (none) fun d19=>
  some ((false,[],[],[],0,0),(e.1,(([]++e.2.1).set (Int.toNat X) d15.1).set (Int.toNat Y) d15.2.1,e.2.2.1,e.2.2.2.1,e.2.2.2.2.1,e.2.2.2.2.2),[],[],[])
 else none
 else none
 else none
 else none
 else none
 else bif decide (d11.1>d11.2) then
  Za (QR (op,())) (none) fun d12=>
  bif decide (0≤X) then
  Za e.2.1[Int.toNat X]? (none) fun d13=>
  bif decide (0≤Y) then
  Za e.2.1[Int.toNat Y]? (none) fun d14=>
  Za (ZW (d12,d13,d14,())) (none) fun d15=>
  bif X==Y then
  Za (ZC (d15.1,d15.2.1,())) (none) fun d16=>
  bif decide (d16.1>d16.2) then
  some ((false,[],[],[],0,0),(false,[],[],[],0,0),[],[],[])
 else bif decide (d16.1>d16.2) then
  some ((false,[],[],[],0,0),(false,[],[],[],0,0),[],[],[])
 else bif decide (((List.length (α:=I) [])+List.length e.2.1+1)*16≤lim) then
  bif decide (0≤X) then
  Za ([]++e.2.1)[Int.toNat X]? (none) fun d17=>
  Za ([]++e.2.1)[Int.toNat X]? (none) fun d18=>
  bif decide (0≤Y) then
  Za (([]++e.2.1).set (Int.toNat X) d16)[Int.toNat Y]? (none) fun d19=>
  Za (([]++e.2.1).set (Int.toNat X) d16)[Int.toNat Y]? (none) fun d20=>
  some ((false,[],[],[],0,0),(e.1,(([]++e.2.1).set (Int.toNat X) d16).set (Int.toNat Y) d16,e.2.2.1,e.2.2.2.1,e.2.2.2.2.1,e.2.2.2.2.2),[],[],[])
 else none
 else none
 else none
 else bif decide (d15.1.1>d15.1.2) then
  some ((false,[],[],[],0,0),(false,[],[],[],0,0),[],[],[])
 else bif decide (d15.2.1.1>d15.2.1.2) then
  some ((false,[],[],[],0,0),(false,[],[],[],0,0),[],[],[])
 else bif decide (((List.length (α:=I) [])+List.length e.2.1+1)*16≤lim) then
  bif decide (0≤X) then
  Za ([]++e.2.1)[Int.toNat X]? (none) fun d16=>
  Za ([]++e.2.1)[Int.toNat X]? (none) fun d17=>
  bif decide (0≤Y) then
  Za (([]++e.2.1).set (Int.toNat X) d15.1)[Int.toNat Y]? (none) fun d18=>
  Za (([]++e.2.1).set (Int.toNat X) d15.1)[Int.toNat Y]? (none) fun d19=>
  some ((false,[],[],[],0,0),(e.1,(([]++e.2.1).set (Int.toNat X) d15.1).set (Int.toNat Y) d15.2.1,e.2.2.1,e.2.2.2.1,e.2.2.2.2.1,e.2.2.2.2.2),[],[],[])
 else none
 else none
 else none
 else none
 else none
 else bif decide (((List.length (α:=I) [])+List.length e.2.1+1)*16≤lim) then
  bif decide (0≤X) then
  Za ([]++e.2.1)[Int.toNat X]? (none) fun d12=>
  Za ([]++e.2.1)[Int.toNat X]? (none) fun d13=>
  bif decide (0≤Y) then
  Za (([]++e.2.1).set (Int.toNat X) d11)[Int.toNat Y]? (none) fun d14=>
  Za (([]++e.2.1).set (Int.toNat X) d11)[Int.toNat Y]? (none) fun d15=>
  Za (QR (op,())) (none) fun d16=>
  bif decide (0≤X) then
  Za e.2.1[Int.toNat X]? (none) fun d17=>
  bif decide (0≤Y) then
  Za e.2.1[Int.toNat Y]? (none) fun d18=>
  Za (ZW (d16,d17,d18,())) (none) fun d19=>
  bif X==Y then
  Za (ZC (d19.1,d19.2.1,())) (none) fun d20=>
  bif decide (d20.1>d20.2) then
  some ((e.1,(([]++e.2.1).set (Int.toNat X) d11).set (Int.toNat Y) d11,e.2.2.1,e.2.2.2.1,e.2.2.2.2.1,e.2.2.2.2.2),(false,[],[],[],0,0),[],[],[])
 else bif decide (d20.1>d20.2) then
  some ((e.1,(([]++e.2.1).set (Int.toNat X) d11).set (Int.toNat Y) d11,e.2.2.1,e.2.2.2.1,e.2.2.2.2.1,e.2.2.2.2.2),(false,[],[],[],0,0),[],[],[])
 else bif decide (((List.length (α:=I) [])+List.length e.2.1+1)*16≤lim) then
  bif decide (0≤X) then
  Za ([]++e.2.1)[Int.toNat X]? (none) fun d21=>
  Za ([]++e.2.1)[Int.toNat X]? (none) fun d22=>
  bif decide (0≤Y) then
  Za (([]++e.2.1).set (Int.toNat X) d20)[Int.toNat Y]? (none) fun d23=>
  Za (([]++e.2.1).set (Int.toNat X) d20)[Int.toNat Y]? (none) fun d24=>
  some ((e.1,(([]++e.2.1).set (Int.toNat X) d11).set (Int.toNat Y) d11,e.2.2.1,e.2.2.2.1,e.2.2.2.2.1,e.2.2.2.2.2),(e.1,(([]++e.2.1).set (Int.toNat X) d20).set (Int.toNat Y) d20,e.2.2.1,e.2.2.2.1,e.2.2.2.2.1,e.2.2.2.2.2),[],[],[])
 else none
 else none
 else none
 else bif decide (d19.1.1>d19.1.2) then
  some ((e.1,(([]++e.2.1).set (Int.toNat X) d11).set (Int.toNat Y) d11,e.2.2.1,e.2.2.2.1,e.2.2.2.2.1,e.2.2.2.2.2),(false,[],[],[],0,0),[],[],[])
 else bif decide (d19.2.1.1>d19.2.1.2) then
  some ((e.1,(([]++e.2.1).set (Int.toNat X) d11).set (Int.toNat Y) d11,e.2.2.1,e.2.2.2.1,e.2.2.2.2.1,e.2.2.2.2.2),(false,[],[],[],0,0),[],[],[])
 else bif decide (((List.length (α:=I) [])+List.length e.2.1+1)*16≤lim) then
  bif decide (0≤X) then
  Za ([]++e.2.1)[Int.toNat X]? (none) fun d20=>
  Za ([]++e.2.1)[Int.toNat X]? (none) fun d21=>
  bif decide (0≤Y) then
  Za (([]++e.2.1).set (Int.toNat X) d19.1)[Int.toNat Y]? (none) fun d22=>
  Za (([]++e.2.1).set (Int.toNat X) d19.1)[Int.toNat Y]? (none) fun d23=>
  some ((e.1,(([]++e.2.1).set (Int.toNat X) d11).set (Int.toNat Y) d11,e.2.2.1,e.2.2.2.1,e.2.2.2.2.1,e.2.2.2.2.2),(e.1,(([]++e.2.1).set (Int.toNat X) d19.1).set (Int.toNat Y) d19.2.1,e.2.2.1,e.2.2.2.1,e.2.2.2.2.1,e.2.2.2.2.2),[],[],[])
 else none
 else none
 else none
 else none
 else none
 else none
 else none
 else none
 else bif decide (d10.1.1>d10.1.2) then
  Za (QR (op,())) (none) fun d11=>
  bif decide (0≤X) then
  Za e.2.1[Int.toNat X]? (none) fun d12=>
  bif decide (0≤Y) then
  Za e.2.1[Int.toNat Y]? (none) fun d13=>
  Za (ZW (d11,d12,d13,())) (none) fun d14=>
  bif X==Y then
  Za (ZC (d14.1,d14.2.1,())) (none) fun d15=>
  bif decide (d15.1>d15.2) then
  some ((false,[],[],[],0,0),(false,[],[],[],0,0),[],[],[])
 else bif decide (d15.1>d15.2) then
  some ((false,[],[],[],0,0),(false,[],[],[],0,0),[],[],[])
 else bif decide (((List.length (α:=I) [])+List.length e.2.1+1)*16≤lim) then
  bif decide (0≤X) then
  Za ([]++e.2.1)[Int.toNat X]? (none) fun d16=>
  Za ([]++e.2.1)[Int.toNat X]? (none) fun d17=>
  bif decide (0≤Y) then
  Za (([]++e.2.1).set (Int.toNat X) d15)[Int.toNat Y]? (none) fun d18=>
  Za (([]++e.2.1).set (Int.toNat X) d15)[Int.toNat Y]? (none) fun d19=>
  some ((false,[],[],[],0,0),(e.1,(([]++e.2.1).set (Int.toNat X) d15).set (Int.toNat Y) d15,e.2.2.1,e.2.2.2.1,e.2.2.2.2.1,e.2.2.2.2.2),[],[],[])
 else none
 else none
 else none
 else bif decide (d14.1.1>d14.1.2) then
  some ((false,[],[],[],0,0),(false,[],[],[],0,0),[],[],[])
 else bif decide (d14.2.1.1>d14.2.1.2) then
  some ((false,[],[],[],0,0),(false,[],[],[],0,0),[],[],[])
 else bif decide (((List.length (α:=I) [])+List.length e.2.1+1)*16≤lim) then
  bif decide (0≤X) then
  Za ([]++e.2.1)[Int.toNat X]? (none) fun d15=>
  Za ([]++e.2.1)[Int.toNat X]? (none) fun d16=>
  bif decide (0≤Y) then
  Za (([]++e.2.1).set (Int.toNat X) d14.1)[Int.toNat Y]? (none) fun d17=>
  Za (([]++e.2.1).set (Int.toNat X) d14.1)[Int.toNat Y]? (none) fun d18=>
  some ((false,[],[],[],0,0),(e.1,(([]++e.2.1).set (Int.toNat X) d14.1).set (Int.toNat Y) d14.2.1,e.2.2.1,e.2.2.2.1,e.2.2.2.2.1,e.2.2.2.2.2),[],[],[])
 else none
 else none
 else none
 else none
 else none
 else bif decide (d10.2.1.1>d10.2.1.2) then
  Za (QR (op,())) (none) fun d11=>
  bif decide (0≤X) then
  Za e.2.1[Int.toNat X]? (none) fun d12=>
  bif decide (0≤Y) then
  Za e.2.1[Int.toNat Y]? (none) fun d13=>
  Za (ZW (d11,d12,d13,())) (none) fun d14=>
  bif X==Y then
  Za (ZC (d14.1,d14.2.1,())) (none) fun d15=>
  bif decide (d15.1>d15.2) then
  some ((false,[],[],[],0,0),(false,[],[],[],0,0),[],[],[])
 else bif decide (d15.1>d15.2) then
  some ((false,[],[],[],0,0),(false,[],[],[],0,0),[],[],[])
 else bif decide (((List.length (α:=I) [])+List.length e.2.1+1)*16≤lim) then
  bif decide (0≤X) then
  Za ([]++e.2.1)[Int.toNat X]? (none) fun d16=>
  Za ([]++e.2.1)[Int.toNat X]? (none) fun d17=>
  bif decide (0≤Y) then
  Za (([]++e.2.1).set (Int.toNat X) d15)[Int.toNat Y]? (none) fun d18=>
  Za (([]++e.2.1).set (Int.toNat X) d15)[Int.toNat Y]? (none) fun d19=>
  some ((false,[],[],[],0,0),(e.1,(([]++e.2.1).set (Int.toNat X) d15).set (Int.toNat Y) d15,e.2.2.1,e.2.2.2.1,e.2.2.2.2.1,e.2.2.2.2.2),[],[],[])
 else none
 else none
 else none
 else bif decide (d14.1.1>d14.1.2) then
  some ((false,[],[],[],0,0),(false,[],[],[],0,0),[],[],[])
 else bif decide (d14.2.1.1>d14.2.1.2) then
  some ((false,[],[],[],0,0),(false,[],[],[],0,0),[],[],[])
 else bif decide (((List.length (α:=I) [])+List.length e.2.1+1)*16≤lim) then
  bif decide (0≤X) then
  Za ([]++e.2.1)[Int.toNat X]? (none) fun d15=>
  Za ([]++e.2.1)[Int.toNat X]? (none) fun d16=>
  bif decide (0≤Y) then
  Za (([]++e.2.1).set (Int.toNat X) d14.1)[Int.toNat Y]? (none) fun d17=>
  Za (([]++e.2.1).set (Int.toNat X) d14.1)[Int.toNat Y]? (none) fun d18=>
  some ((false,[],[],[],0,0),(e.1,(([]++e.2.1).set (Int.toNat X) d14.1).set (Int.toNat Y) d14.2.1,e.2.2.1,e.2.2.2.1,e.2.2.2.2.1,e.2.2.2.2.2),[],[],[])
 else none
 else none
 else none
 else none
 else none
 else bif decide (((List.length (α:=I) [])+List.length e.2.1+1)*16≤lim) then
  bif decide (0≤X) then
  Za ([]++e.2.1)[Int.toNat X]? (none) fun d11=>
  Za ([]++e.2.1)[Int.toNat X]? (none) fun d12=>
  bif decide (0≤Y) then
  Za (([]++e.2.1).set (Int.toNat X) d10.1)[Int.toNat Y]? (none) fun d13=>
  Za (([]++e.2.1).set (Int.toNat X) d10.1)[Int.toNat Y]? (none) fun d14=>
  Za (QR (op,())) (none) fun d15=>
  bif decide (0≤X) then
  Za e.2.1[Int.toNat X]? (none) fun d16=>
  bif decide (0≤Y) then
  Za e.2.1[Int.toNat Y]? (none) fun d17=>
  Za (ZW (d15,d16,d17,())) (none) fun d18=>
  bif X==Y then
  Za (ZC (d18.1,d18.2.1,())) (none) fun d19=>
  bif decide (d19.1>d19.2) then
  some ((e.1,(([]++e.2.1).set (Int.toNat X) d10.1).set (Int.toNat Y) d10.2.1,e.2.2.1,e.2.2.2.1,e.2.2.2.2.1,e.2.2.2.2.2),(false,[],[],[],0,0),[],[],[])
 else bif decide (d19.1>d19.2) then
  some ((e.1,(([]++e.2.1).set (Int.toNat X) d10.1).set (Int.toNat Y) d10.2.1,e.2.2.1,e.2.2.2.1,e.2.2.2.2.1,e.2.2.2.2.2),(false,[],[],[],0,0),[],[],[])
 else bif decide (((List.length (α:=I) [])+List.length e.2.1+1)*16≤lim) then
  bif decide (0≤X) then
  Za ([]++e.2.1)[Int.toNat X]? (none) fun d20=>
  Za ([]++e.2.1)[Int.toNat X]? (none) fun d21=>
  bif decide (0≤Y) then
  Za (([]++e.2.1).set (Int.toNat X) d19)[Int.toNat Y]? (none) fun d22=>
  Za (([]++e.2.1).set (Int.toNat X) d19)[Int.toNat Y]? (none) fun d23=>
  some ((e.1,(([]++e.2.1).set (Int.toNat X) d10.1).set (Int.toNat Y) d10.2.1,e.2.2.1,e.2.2.2.1,e.2.2.2.2.1,e.2.2.2.2.2),(e.1,(([]++e.2.1).set (Int.toNat X) d19).set (Int.toNat Y) d19,e.2.2.1,e.2.2.2.1,e.2.2.2.2.1,e.2.2.2.2.2),[],[],[])
 else none
 else none
 else none
 else bif decide (d18.1.1>d18.1.2) then
  some ((e.1,(([]++e.2.1).set (Int.toNat X) d10.1).set (Int.toNat Y) d10.2.1,e.2.2.1,e.2.2.2.1,e.2.2.2.2.1,e.2.2.2.2.2),(false,[],[],[],0,0),[],[],[])
 else bif decide (d18.2.1.1>d18.2.1.2) then
  some ((e.1,(([]++e.2.1).set (Int.toNat X) d10.1).set (Int.toNat Y) d10.2.1,e.2.2.1,e.2.2.2.1,e.2.2.2.2.1,e.2.2.2.2.2),(false,[],[],[],0,0),[],[],[])
 else bif decide (((List.length (α:=I) [])+List.length e.2.1+1)*16≤lim) then
  bif decide (0≤X) then
  Za ([]++e.2.1)[Int.toNat X]? (none) fun d19=>
  Za ([]++e.2.1)[Int.toNat X]? (none) fun d20=>
  bif decide (0≤Y) then
  Za (([]++e.2.1).set (Int.toNat X) d18.1)[Int.toNat Y]? (none) fun d21=>
  Za (([]++e.2.1).set (Int.toNat X) d18.1)[Int.toNat Y]? (none) fun d22=>
  some ((e.1,(([]++e.2.1).set (Int.toNat X) d10.1).set (Int.toNat Y) d10.2.1,e.2.2.1,e.2.2.2.1,e.2.2.2.2.1,e.2.2.2.2.2),(e.1,(([]++e.2.1).set (Int.toNat X) d18.1).set (Int.toNat Y) d18.2.1,e.2.2.1,e.2.2.2.1,e.2.2.2.2.1,e.2.2.2.2.2),[],[],[])
 else none
 else none
 else none
 else none
 else none
 else none
 else none
 else none
 else none
 else none:=by kernel_rfl
theorem ZWP (u:U) (t n:Int) (e:E) (l:List En) (c:C) (T X Y G N op nx el:Int):bF u t n e l c (12,T,X,Y,G,N,op,nx,el) =
 some ((e.1,e.2.1,e.2.2.1,e.2.2.2.1,e.2.2.2.2.1,e.2.2.2.2.2),(false,[],[],[],0,0),[],[],[]):=by kernel_rfl
theorem ZWQ (u:U) (t n:Int) (e:E) (l:List En) (c:C) (T X Y G N op nx el:Int):bF u t n e l c (13,T,X,Y,G,N,op,nx,el) =
 some ((false,[],[],[],0,0),(false,[],[],[],0,0),[10],[],[]):=by kernel_rfl
theorem ZWR (u:U) (t n:Int) (e:E) (l:List En) (c:C) (T X Y G N op nx el:Int):bF u t n e l c (14,T,X,Y,G,N,op,nx,el) =
 some ((false,[],[],[],0,0),(false,[],[],[],0,0),[],[],[]):=by kernel_rfl
theorem ZZI (u:U) (t n:Int) (e:E) (l:List En) (c:C) (a:A) (h0:0≤t) (hc:u.2.2.2[t.toNat]? = some c) (h1:0≤n) (ha:c.2[n.toNat]? = some a) (he:e.1=true):ZjW u t n e l=bR u t n e l c a:=by
 have e0:decide (0≤t)=true:=dT0 h0
 have e1:decide (0≤n)=true:=dT0 h1
 have e2:(!e.1)=false:=by rw [he];rfl
 unfold ZjW
 rw [e0,hc,e1,e2,cond_true,cond_false,Zc,cond_true,ha,Zc]
theorem R_1 (u:U) (t n:Int) (e:E) (l:List En) (c:C) (T X Y G N op nx el:Int):bR u t n e l c (1,T,X,Y,G,N,op,nx,el) =
 Za (Zw (e,T,(N,N),())) (none) fun d8=>
  some ((d8.1,d8.2.1,d8.2.2.1,d8.2.2.2.1,d8.2.2.2.2.1,d8.2.2.2.2.2),(false,[],[],[],0,0),[],[],[]):=by kernel_rfl
theorem R_2 (u:U) (t n:Int) (e:E) (l:List En) (c:C) (T X Y G N op nx el:Int):bR u t n e l c (2,T,X,Y,G,N,op,nx,el) =
 bif decide (0≤X) then
  Za e.2.1[Int.toNat X]? (none) fun d8=>
  Za (Zw (e,T,d8,())) (none) fun d9=>
  some ((d9.1,d9.2.1,d9.2.2.1,d9.2.2.2.1,d9.2.2.2.2.1,d9.2.2.2.2.2),(false,[],[],[],0,0),[],[],[])
 else none:=by kernel_rfl
theorem R_3 (u:U) (t n:Int) (e:E) (l:List En) (c:C) (T X Y G N op nx el:Int):bR u t n e l c (3,T,X,Y,G,N,op,nx,el) =
 Za (Zw (e,T,(-2147483648,2147483647),())) (none) fun d8=>
  some ((d8.1,d8.2.1,d8.2.2.1,d8.2.2.2.1,d8.2.2.2.2.1,d8.2.2.2.2.2),(false,[],[],[],0,0),[],[],[]):=by kernel_rfl
theorem R_4 (u:U) (t n:Int) (e:E) (l:List En) (c:C) (T X Y G N op nx el:Int):bR u t n e l c (4,T,X,Y,G,N,op,nx,el) =
 Za (ZlQ ((4,T,X,Y,G,N,op,nx,el),e,())) (none) fun d8=>
  bif decide (0<(↑(List.length d8.2.2.2.2):Int)) then
  Za d8.2.2.2.2[Int.toNat 0]? (none) fun d9=>
  none
 else some ((d8.1.1,d8.1.2.1,d8.1.2.2.1,d8.1.2.2.2.1,d8.1.2.2.2.2.1,d8.1.2.2.2.2.2),(d8.2.1.1,d8.2.1.2.1,d8.2.1.2.2.1,d8.2.1.2.2.2.1,d8.2.1.2.2.2.2.1,d8.2.1.2.2.2.2.2),d8.2.2.1,d8.2.2.2.1,d8.2.2.2.2):=by kernel_rfl
theorem R_5 (u:U) (t n:Int) (e:E) (l:List En) (c:C) (T X Y G N op nx el:Int):bR u t n e l c (5,T,X,Y,G,N,op,nx,el) =
 Za (Qd (t,e,l,false,G,())) (none) fun d8=>
  Za (Zw (e,T,d8,())) (none) fun d9=>
  some ((d9.1,d9.2.1,d9.2.2.1,d9.2.2.2.1,d9.2.2.2.2.1,d9.2.2.2.2.2),(false,[],[],[],0,0),[],[],[(t,n,false,G,false,e.2.2.2.2.1)]):=by kernel_rfl
theorem R_6 (u:U) (t n:Int) (e:E) (l:List En) (c:C) (T X Y G N op nx el:Int):bR u t n e l c (6,T,X,Y,G,N,op,nx,el) =
 bif decide (((List.length (α:=I) [])+List.length e.2.2.1+1)*16≤lim) then
  bif decide (0≤X) then
  Za e.2.1[Int.toNat X]? (none) fun d8=>
  bif decide (0≤G) then
  Za ([]++e.2.2.1)[Int.toNat G]? (none) fun d9=>
  Za ([]++e.2.2.1)[Int.toNat G]? (none) fun d10=>
  bif decide (0≤X) then
  Za e.2.1[Int.toNat X]? (none) fun d11=>
  some ((e.1,e.2.1,([]++e.2.2.1).set (Int.toNat G) d8,e.2.2.2.1,e.2.2.2.2.1,e.2.2.2.2.2),(false,[],[],[],0,0),[],[(t,false,G,e.2.2.2.2.1,d11.1,d11.2)],[(t,n,false,G,true,e.2.2.2.2.1)])
 else none
 else none
 else none
 else none:=by kernel_rfl
theorem R_7 (u:U) (t n:Int) (e:E) (l:List En) (c:C) (T X Y G N op nx el:Int):bR u t n e l c (7,T,X,Y,G,N,op,nx,el) =
 bif decide (0≤G) then
  Za u.2.1[Int.toNat G]? (none) fun d8=>
  bif decide (0≤X) then
  Za e.2.1[Int.toNat X]? (none) fun d9=>
  Za (Jx (d9,(0,IntKind.i64.wrap (d8 - 1)),())) (none) fun d10=>
  bif !d10 then
  Za (ZX (d9,(0,IntKind.i64.wrap (d8 - 1)),())) (none) fun d11=>
  bif decide (d11.1>d11.2) then
  some ((false,[],[],[],0,0),(false,[],[],[],0,0),[9],[],[(t,n,true,G,7==8,e.2.2.2.2.1)])
 else Za (Zw (e,X,d11,())) (none) fun d12=>
  Za (Qd (t,d12,l,true,G,())) (none) fun d13=>
  Za (Zw (d12,T,d13,())) (none) fun d14=>
  some ((d14.1,d14.2.1,d14.2.2.1,d14.2.2.2.1,d14.2.2.2.2.1,d14.2.2.2.2.2),(false,[],[],[],0,0),[9],[],[(t,n,true,G,7==8,e.2.2.2.2.1)])
 else Za (ZX (d9,(0,IntKind.i64.wrap (d8 - 1)),())) (none) fun d11=>
  bif decide (d11.1>d11.2) then
  some ((false,[],[],[],0,0),(false,[],[],[],0,0),[],[],[(t,n,true,G,7==8,e.2.2.2.2.1)])
 else Za (Zw (e,X,d11,())) (none) fun d12=>
  Za (Qd (t,d12,l,true,G,())) (none) fun d13=>
  Za (Zw (d12,T,d13,())) (none) fun d14=>
  some ((d14.1,d14.2.1,d14.2.2.1,d14.2.2.2.1,d14.2.2.2.2.1,d14.2.2.2.2.2),(false,[],[],[],0,0),[],[],[(t,n,true,G,7==8,e.2.2.2.2.1)])
 else none
 else none:=by kernel_rfl
theorem R_8 (u:U) (t n:Int) (e:E) (l:List En) (c:C) (T X Y G N op nx el:Int):bR u t n e l c (8,T,X,Y,G,N,op,nx,el) =
 bif decide (0≤G) then
  Za u.2.1[Int.toNat G]? (none) fun d8=>
  bif decide (0≤X) then
  Za e.2.1[Int.toNat X]? (none) fun d9=>
  Za (Jx (d9,(0,IntKind.i64.wrap (d8 - 1)),())) (none) fun d10=>
  bif !d10 then
  Za (ZX (d9,(0,IntKind.i64.wrap (d8 - 1)),())) (none) fun d11=>
  bif decide (0≤Y) then
  Za e.2.1[Int.toNat Y]? (none) fun d12=>
  bif decide (d11.1>d11.2) then
  some ((false,[],[],[],0,0),(false,[],[],[],0,0),[9],[(t,true,G,e.2.2.2.2.1,d12.1,d12.2)],[(t,n,true,G,8==8,e.2.2.2.2.1)])
 else Za (Zw (e,X,d11,())) (none) fun d13=>
  bif decide (((List.length (α:=I) [])+List.length d13.2.2.2.1+1)*16≤lim) then
  bif decide (0≤G) then
  Za ([]++d13.2.2.2.1)[Int.toNat G]? (none) fun d14=>
  Za ([]++d13.2.2.2.1)[Int.toNat G]? (none) fun d15=>
  bif decide (0≤Y) then
  Za d13.2.1[Int.toNat Y]? (none) fun d16=>
  Za (ZH (d15,d16,())) (none) fun d17=>
  bif decide (0≤G) then
  Za ([]++d13.2.2.2.1)[Int.toNat G]? (none) fun d18=>
  Za ([]++d13.2.2.2.1)[Int.toNat G]? (none) fun d19=>
  some ((d13.1,d13.2.1,d13.2.2.1,([]++d13.2.2.2.1).set (Int.toNat G) d17,d13.2.2.2.2.1,d13.2.2.2.2.2),(false,[],[],[],0,0),[9],[(t,true,G,e.2.2.2.2.1,d12.1,d12.2)],[(t,n,true,G,8==8,e.2.2.2.2.1)])
 else none
 else none
 else none
 else none
 else none
 else Za (ZX (d9,(0,IntKind.i64.wrap (d8 - 1)),())) (none) fun d11=>
  bif decide (0≤Y) then
  Za e.2.1[Int.toNat Y]? (none) fun d12=>
  bif decide (d11.1>d11.2) then
  some ((false,[],[],[],0,0),(false,[],[],[],0,0),[],[(t,true,G,e.2.2.2.2.1,d12.1,d12.2)],[(t,n,true,G,8==8,e.2.2.2.2.1)])
 else Za (Zw (e,X,d11,())) (none) fun d13=>
  bif decide (((List.length (α:=I) [])+List.length d13.2.2.2.1+1)*16≤lim) then
  bif decide (0≤G) then
  Za ([]++d13.2.2.2.1)[Int.toNat G]? (none) fun d14=>
  Za ([]++d13.2.2.2.1)[Int.toNat G]? (none) fun d15=>
  bif decide (0≤Y) then
  Za d13.2.1[Int.toNat Y]? (none) fun d16=>
  Za (ZH (d15,d16,())) (none) fun d17=>
  bif decide (0≤G) then
  Za ([]++d13.2.2.2.1)[Int.toNat G]? (none) fun d18=>
  Za ([]++d13.2.2.2.1)[Int.toNat G]? (none) fun d19=>
  some ((d13.1,d13.2.1,d13.2.2.1,([]++d13.2.2.2.1).set (Int.toNat G) d17,d13.2.2.2.2.1,d13.2.2.2.2.2),(false,[],[],[],0,0),[],[(t,true,G,e.2.2.2.2.1,d12.1,d12.2)],[(t,n,true,G,8==8,e.2.2.2.2.1)])
 else none
 else none
 else none
 else none
 else none
 else none
 else none:=by kernel_rfl
theorem R_9 (u:U) (t n:Int) (e:E) (l:List En) (c:C) (T X Y G N op nx el:Int):bR u t n e l c (9,T,X,Y,G,N,op,nx,el) =
 Za (Zjc (t,(9,T,X,Y,G,N,op,nx,el),e,l,())) (none) fun d8=>
  bif decide (0<(↑(List.length d8.2.2.2.2):Int)) then
  Za d8.2.2.2.2[Int.toNat 0]? (none) fun d9=>
  none
 else some ((d8.1.1,d8.1.2.1,d8.1.2.2.1,d8.1.2.2.2.1,d8.1.2.2.2.2.1,d8.1.2.2.2.2.2),(d8.2.1.1,d8.2.1.2.1,d8.2.1.2.2.1,d8.2.1.2.2.2.1,d8.2.1.2.2.2.2.1,d8.2.1.2.2.2.2.2),d8.2.2.1,d8.2.2.2.1,d8.2.2.2.2):=by kernel_rfl
theorem Z0x (u:U) (t n:Int) (e:E) (l:List En) (c:C) (T X Y G N op nx el:Int):bR u t n e l c (10,T,X,Y,G,N,op,nx,el) =
 Za (Zgh ((10,T,X,Y,G,N,op,nx,el),e,())) (none) fun d8=>
  bif decide (0<(↑(List.length d8.2.2.2.2):Int)) then
  Za d8.2.2.2.2[Int.toNat 0]? (none) fun d9=>
  none
 else some ((d8.1.1,d8.1.2.1,d8.1.2.2.1,d8.1.2.2.2.1,d8.1.2.2.2.2.1,d8.1.2.2.2.2.2),(d8.2.1.1,d8.2.1.2.1,d8.2.1.2.2.1,d8.2.1.2.2.2.1,d8.2.1.2.2.2.2.1,d8.2.1.2.2.2.2.2),d8.2.2.1,d8.2.2.2.1,d8.2.2.2.2):=by kernel_rfl
theorem ZWS (u:U) (t n:Int) (e:E) (l:List En) (c:C) (T X Y G N op nx el:Int):bR u t n e l c (11,T,X,Y,G,N,op,nx,el) =
 Za (ZaR ((11,T,X,Y,G,N,op,nx,el),e,op,())) (none) fun d8=>
  Za (ZjS (op,())) (none) fun d9=>
  Za (ZaR ((11,T,X,Y,G,N,op,nx,el),e,d9,())) (none) fun d10=>
  some ((d8.1,d8.2.1,d8.2.2.1,d8.2.2.2.1,d8.2.2.2.2.1,d8.2.2.2.2.2),(d10.1,d10.2.1,d10.2.2.1,d10.2.2.2.1,d10.2.2.2.2.1,d10.2.2.2.2.2),[],[],[]):=by kernel_rfl
theorem Z0y (u:U) (t n:Int) (e:E) (l:List En) (c:C) (T X Y G N op nx el:Int):bR u t n e l c (12,T,X,Y,G,N,op,nx,el) =
 some ((e.1,e.2.1,e.2.2.1,e.2.2.2.1,e.2.2.2.2.1,e.2.2.2.2.2),(false,[],[],[],0,0),[],[],[]):=by kernel_rfl
theorem Z0z (u:U) (t n:Int) (e:E) (l:List En) (c:C) (T X Y G N op nx el:Int):bR u t n e l c (13,T,X,Y,G,N,op,nx,el) =
 some ((false,[],[],[],0,0),(false,[],[],[],0,0),[10],[],[]):=by kernel_rfl
theorem Z0A (u:U) (t n:Int) (e:E) (l:List En) (c:C) (T X Y G N op nx el:Int):bR u t n e l c (14,T,X,Y,G,N,op,nx,el) =
 some ((false,[],[],[],0,0),(false,[],[],[],0,0),[],[],[]):=by kernel_rfl
theorem Zhj (x y c d:I):(bif Zd x then some ((1,0),(1,0),()) else bif Zd y then some ((1,0),(1,0),()) else bif Zd c then some ((1,0),(1,0),()) else bif Zd d then some ((1,0),(1,0),()) else some (c,d,()):Option (I×I×Unit)) =
  some ((both x y c d).1,(both x y c d).2,()):=by
 unfold both
 cases Zd x<;>cases Zd y<;>cases Zd c<;>cases Zd d<;>rfl
theorem Zim (x y c d:I):(bif Zd x then some ((1,0),(1,0),()) else bif Zd y then some ((1,0),(1,0),()) else bif Zd c then some ((1,0),(1,0),()) else bif Zd d then some ((1,0),(1,0),()) else some (c,d,()):Option (I×I×Unit)) =
  some ((rboth x y c d).1,(rboth x y c d).2,()):=Zhj x y c d
theorem ZAs (x y:I) (hx:isB x=true):Zp2 x y=some (wout x y):=by
 obtain ⟨x1,x2⟩:=K4 hx
 have w1:IntKind.i64.wrap (x.1+1)=x.1+1:=wr (by omega)
 have w2:IntKind.i64.wrap (x.2 - 1)=x.2 - 1:=wr (by omega)
 unfold Zp2 wout
 simp only [w1,w2]
 by_cases h1:y.1=y.2
 ·rw [show (y.1 !=y.2)=false by simp [bne,h1],if_pos h1]
  by_cases h2:x.1=y.1
  ·rw [show (x.1==y.1)=true by simp [h2],if_pos h2];rfl
  ·rw [show (x.1==y.1)=false by simp [h2],if_neg h2]
   by_cases h3:x.2=y.1
   ·rw [show (x.2==y.1)=true by simp [h3],if_pos h3];rfl
   ·rw [show (x.2==y.1)=false by simp [h3],if_neg h3];rfl
 ·rw [show (y.1 !=y.2)=true by simp [bne,h1],if_neg h1];rfl
theorem ZDv (x y:I) (hx:isB x=true):Zsf x y=some (oth x y):=by
 obtain ⟨x1,x2⟩:=K4 hx
 have w1:IntKind.i64.wrap (x.1+1)=x.1+1:=wr (by omega)
 have w2:IntKind.i64.wrap (x.2 - 1)=x.2 - 1:=wr (by omega)
 unfold Zsf oth Z2
 simp only [w1,w2,ZoN,Zc]
 by_cases h1:y.1=y.2
 ·rw [show (y.1 !=y.2)=false by simp [bne,h1],if_pos h1]
  by_cases h2:y.1=x.1
  ·rw [show (y.1==x.1)=true by simp [h2],if_pos h2]
   by_cases h3:y.1=x.2
   ·rw [show (y.1==x.2)=true by simp [h3],if_pos h3];rfl
   ·rw [show (y.1==x.2)=false by simp [h3],if_neg h3];rfl
  ·rw [show (y.1==x.1)=false by simp [h2],if_neg h2]
   by_cases h3:y.1=x.2
   ·rw [show (y.1==x.2)=true by simp [h3],if_pos h3];rfl
   ·rw [show (y.1==x.2)=false by simp [h3],if_neg h3];rfl
 ·rw [show (y.1 !=y.2)=true by simp [bne,h1],if_neg h1];rfl
theorem Zmz (r:Int) (x y:I) (hx:isB x=true) (hy:isB y=true):Zr8 r x y=some ((refI r x y).1,(refI r x y).2,()):=by
 obtain ⟨x1,x2⟩:=K4 hx
 obtain ⟨y1,y2⟩:=K4 hy
 have w1:IntKind.i64.wrap (x.1+1)=x.1+1:=wr (by omega)
 have w2:IntKind.i64.wrap (x.2 - 1)=x.2 - 1:=wr (by omega)
 have w3:IntKind.i64.wrap (y.1+1)=y.1+1:=wr (by omega)
 have w4:IntKind.i64.wrap (y.2 - 1)=y.2 - 1:=wr (by omega)
 unfold Zr8 refI
 simp only [w1,w2,w3,w4,Zda,Zdb,ZC,VF,Zh1,ZAs x y hx,ZAs y x hy,Zc]
 by_cases o1:r=1
 ·subst o1;exact Zhj x y (x.1,mn x.2 (y.2 - 1)) (mx y.1 (x.1+1),y.2)
 by_cases o2:r=2
 ·subst o2;exact Zhj x y (x.1,mn x.2 y.2) (mx y.1 x.1,y.2)
 by_cases o5:r=5
 ·subst o5;exact Zhj x y (mx x.1 y.1,x.2) (y.1,mn y.2 x.2)
 by_cases o6:r=6
 ·subst o6;exact Zhj x y (mx x.1 (y.1+1),x.2) (y.1,mn y.2 (x.2 - 1))
 by_cases o3:r=3
 ·subst o3;exact Zhj x y (iMeet x y) (iMeet x y)
 by_cases o4:r=4
 ·subst o4;exact Zhj x y (wout x y) (wout y x)
 simp only [o1,o2,o3,o4,o5,o6,if_false,beq_eq_false_iff_ne.2 o1,beq_eq_false_iff_ne.2 o2,beq_eq_false_iff_ne.2 o3,beq_eq_false_iff_ne.2 o4,beq_eq_false_iff_ne.2 o5,beq_eq_false_iff_ne.2 o6,cond_false]
 rfl
theorem ZAu (r:Int) (x y:I) (hx:isB x=true) (hy:isB y=true):Zp7 r x y=some ((refI r x y).1,(refI r x y).2,()):=by
 rw [ZYA]
 obtain ⟨x1,x2⟩:=K4 hx
 obtain ⟨y1,y2⟩:=K4 hy
 have w1:IntKind.i64.wrap (x.1+1)=x.1+1:=wr (by omega)
 have w2:IntKind.i64.wrap (x.2 - 1)=x.2 - 1:=wr (by omega)
 have w3:IntKind.i64.wrap (y.1+1)=y.1+1:=wr (by omega)
 have w4:IntKind.i64.wrap (y.2 - 1)=y.2 - 1:=wr (by omega)
 unfold Zp7 rrefI
 simp only [w1,w2,w3,w4,Zda,Zdb,ZX,ZcP,Z2,ZoN,Zjd,ZDv x y hx,ZDv y x hy,Zc]
 by_cases o1:r=1
 ·subst o1;exact Zim x y (iSpan x.1 (mn x.2 (y.2 - 1))) (iSpan (mx y.1 (x.1+1)) y.2)
 by_cases o2:r=2
 ·subst o2;exact Zim x y (iSpan x.1 (mn x.2 y.2)) (iSpan (mx y.1 x.1) y.2)
 by_cases o6:r=6
 ·subst o6;exact Zim x y (iSpan (mx x.1 (y.1+1)) x.2) (iSpan y.1 (mn y.2 (x.2 - 1)))
 by_cases o5:r=5
 ·subst o5;exact Zim x y (iSpan (mx x.1 y.1) x.2) (iSpan y.1 (mn y.2 x.2))
 by_cases o3:r=3
 ·subst o3;exact Zim x y (mSpan x y) (mSpan x y)
 by_cases o4:r=4
 ·subst o4;exact Zim x y (oth x y) (oth y x)
 simp only [o1,o2,o3,o4,o5,o6,if_false,beq_eq_false_iff_ne.2 o1,beq_eq_false_iff_ne.2 o2,beq_eq_false_iff_ne.2 o3,beq_eq_false_iff_ne.2 o4,beq_eq_false_iff_ne.2 o5,beq_eq_false_iff_ne.2 o6,cond_false]
 cases decide (x.1>x.2)<;>cases decide (y.1>y.2)<;>rfl
theorem look {α β:Type} {l:List α} {i:Nat} (h:i<l.length) (b:β) (n:β):Za l[i]? n (fun _=>b)=b:=by rw [List.getElem?_eq_getElem h];rfl
theorem limc {n:Nat} (h:n≤1000):decide ((n+1)*16≤lim)=true:=dT0 (by unfold lim;omega)
theorem Zy {k n:Int}:inB k n=true↔0≤k∧k<n:=by simp [inB]
theorem ZJ {α:Type} (l:List α) (i:Int) (h:0≤i∧i<(l.length:Int)):∃ d,l[i.toNat]? = some d:=⟨l[i.toNat]'(by omega),List.getElem?_eq_getElem _⟩
theorem ZNE (n:Int) (h:fitB n=true):ZkZ ([n],())=some (n,n):=ZSX n h
theorem exO {p q:Option O} {o:O} (h1:p=some o) (h2:q=some o) (h3:HC o):∃ o,p=some o∧q=some o∧HC o:=⟨o,h1,h2,h3⟩
theorem ZVu (x y c d:I):both x y c d=(nn,nn)∨(Zd (both x y c d).1=false∧Zd (both x y c d).2=false):=by
 unfold both
 cases Zd x
 ·cases Zd y
  ·cases h1:Zd c
   ·cases h2:Zd d
    ·exact .inr ⟨h1,h2⟩
    ·exact .inl rfl
   ·exact .inl rfl
  ·exact .inl rfl
 ·exact .inl rfl
theorem ZYB (r:Int) (x y:I):refI r x y=(nn,nn)∨(Zd (refI r x y).1=false∧Zd (refI r x y).2=false):=by
 unfold refI
 repeat' split
 all_goals first | exact ZVu .. | exact .inl rfl
theorem Zy7 (r:Int) (x y:I):iMeet (refI r x y).1 (refI r x y).2=mSpan (refI r x y).1 (refI r x y).2:=by
 rcases ZYB r x y with h | h
 ·rw [h];decide
 ·exact ZcO h.1 h.2
theorem ZH2 (op:Int):∃ w,Zo4 op=some w:=by
 unfold Zo4
 cases op==1<;>cases op==2<;>cases op==3<;>cases op==4<;>cases op==5<;>cases op==6<;>exact ⟨_,rfl⟩
theorem Z0E (u:U) (t n:Int) (e:E) (l:List En) (c:C) (T X Y G N op nx el:Int) (h0:0≤t) (hu:unitOK u) (hl:tabOK l) (hn:l.length≤1000) (he:envOK u t e) (hc:u.2.2.2[t.toNat]? = some c) (ha:actOK u c (1,T,X,Y,G,N,op,nx,el)):∃ o,bF u t n e l c (1,T,X,Y,G,N,op,nx,el)=some o∧bR u t n e l c (1,T,X,Y,G,N,op,nx,el)=some o∧HC o:=by
 obtain ⟨c',hc',hv⟩:=he.c
 obtain rfl:c'=c:=by rw [hc] at hc';exact (Option.some.inj hc').symm
 have cv:=(hu.ts c' (mG0 hc')).v
 have V0:e.2.1.length≤1000:=by omega
 have G0:e.2.2.1.length≤1000:=by rw [he.g];have:=hu.g;omega
 have A0:e.2.2.2.1.length≤1000:=by rw [he.a];have:=hu.a;omega
 have hE:=hl.e
 have hm:=he.must
 have hy:=he.may
 have hn':l.length<9223372036854775807:=by omega
 have hn2:l.length<1000000000000:=by omega
 have hT:0≤T∧T<c'.1:=Zy.1 ha.h1
 have eT:decide (0≤T)=true:=dT0 hT.1
 have lT:T.toNat<e.2.1.length:=by omega
 have hN:fitB N=true:=ha.n
 apply exO
 ·simp only [F_1,ZNE N hN,List.nil_append,List.length_nil,Nat.zero_add,List.length_set,limc V0,limc G0,limc A0,cond_true,cond_false,Zc,Bool.not_true,Bool.not_false,eT,look lT]
  rfl
 ·(simp only [R_1,Zw,YR e T (N,N) hT.1 (by omega) V0,List.nil_append,List.length_nil,Nat.zero_add,List.length_set,limc V0,limc G0,limc A0,cond_true,cond_false,Zc,Bool.not_true,Bool.not_false])<;>rfl
 ·refine ⟨⟨?_,?_,?_⟩,⟨?_,?_,?_⟩,?_,?_,?_⟩<;>simp only [List.length_set,List.length_nil,List.length_cons,gmap,List.length_mapIdx]<;>omega
theorem Z0F (u:U) (t n:Int) (e:E) (l:List En) (c:C) (T X Y G N op nx el:Int) (h0:0≤t) (hu:unitOK u) (hl:tabOK l) (hn:l.length≤1000) (he:envOK u t e) (hc:u.2.2.2[t.toNat]? = some c) (ha:actOK u c (2,T,X,Y,G,N,op,nx,el)):∃ o,bF u t n e l c (2,T,X,Y,G,N,op,nx,el)=some o∧bR u t n e l c (2,T,X,Y,G,N,op,nx,el)=some o∧HC o:=by
 obtain ⟨c',hc',hv⟩:=he.c
 obtain rfl:c'=c:=by rw [hc] at hc';exact (Option.some.inj hc').symm
 have cv:=(hu.ts c' (mG0 hc')).v
 have V0:e.2.1.length≤1000:=by omega
 have G0:e.2.2.1.length≤1000:=by rw [he.g];have:=hu.g;omega
 have A0:e.2.2.2.1.length≤1000:=by rw [he.a];have:=hu.a;omega
 have hE:=hl.e
 have hm:=he.must
 have hy:=he.may
 have hn':l.length<9223372036854775807:=by omega
 have hn2:l.length<1000000000000:=by omega
 have hT:0≤T∧T<c'.1:=Zy.1 ha.h1
 have eT:decide (0≤T)=true:=dT0 hT.1
 have lT:T.toNat<e.2.1.length:=by omega
 have hX:0≤X∧X<c'.1:=Zy.1 ha.h2
 have eX:decide (0≤X)=true:=dT0 hX.1
 have lX:X.toNat<e.2.1.length:=by omega
 obtain ⟨x,gx⟩:=ZJ e.2.1 X (by omega)
 have vx:=he.v x (List.mem_append_left _ (List.mem_append_left _ (mG0 gx)))
 apply exO
 ·simp only [F_2,gx,List.nil_append,List.length_nil,Nat.zero_add,List.length_set,limc V0,limc G0,limc A0,cond_true,cond_false,Zc,Bool.not_true,Bool.not_false,eT,eX,look lT]
  rfl
 ·(simp only [R_2,Zw,YR e T x hT.1 (by omega) V0,gx,eX,List.nil_append,List.length_nil,Nat.zero_add,List.length_set,limc V0,limc G0,limc A0,cond_true,cond_false,Zc,Bool.not_true,Bool.not_false])<;>rfl
 ·refine ⟨⟨?_,?_,?_⟩,⟨?_,?_,?_⟩,?_,?_,?_⟩<;>simp only [List.length_set,List.length_nil,List.length_cons,gmap,List.length_mapIdx]<;>omega
theorem Z0G (u:U) (t n:Int) (e:E) (l:List En) (c:C) (T X Y G N op nx el:Int) (h0:0≤t) (hu:unitOK u) (hl:tabOK l) (hn:l.length≤1000) (he:envOK u t e) (hc:u.2.2.2[t.toNat]? = some c) (ha:actOK u c (3,T,X,Y,G,N,op,nx,el)):∃ o,bF u t n e l c (3,T,X,Y,G,N,op,nx,el)=some o∧bR u t n e l c (3,T,X,Y,G,N,op,nx,el)=some o∧HC o:=by
 obtain ⟨c',hc',hv⟩:=he.c
 obtain rfl:c'=c:=by rw [hc] at hc';exact (Option.some.inj hc').symm
 have cv:=(hu.ts c' (mG0 hc')).v
 have V0:e.2.1.length≤1000:=by omega
 have G0:e.2.2.1.length≤1000:=by rw [he.g];have:=hu.g;omega
 have A0:e.2.2.2.1.length≤1000:=by rw [he.a];have:=hu.a;omega
 have hE:=hl.e
 have hm:=he.must
 have hy:=he.may
 have hn':l.length<9223372036854775807:=by omega
 have hn2:l.length<1000000000000:=by omega
 have hT:0≤T∧T<c'.1:=Zy.1 ha.h1
 have eT:decide (0≤T)=true:=dT0 hT.1
 have lT:T.toNat<e.2.1.length:=by omega
 apply exO
 ·simp only [F_3,List.nil_append,List.length_nil,Nat.zero_add,List.length_set,limc V0,limc G0,limc A0,cond_true,cond_false,Zc,Bool.not_true,Bool.not_false,eT,look lT]
  rfl
 ·(simp only [R_3,Zw,YR e T (-2147483648,2147483647) hT.1 (by omega) V0,List.nil_append,List.length_nil,Nat.zero_add,List.length_set,limc V0,limc G0,limc A0,cond_true,cond_false,Zc,Bool.not_true,Bool.not_false])<;>rfl
 ·refine ⟨⟨?_,?_,?_⟩,⟨?_,?_,?_⟩,?_,?_,?_⟩<;>simp only [List.length_set,List.length_nil,List.length_cons,gmap,List.length_mapIdx]<;>omega
theorem Z0I (u:U) (t n:Int) (e:E) (l:List En) (c:C) (T X Y G N op nx el:Int) (h0:0≤t) (hu:unitOK u) (hl:tabOK l) (hn:l.length≤1000) (he:envOK u t e) (hc:u.2.2.2[t.toNat]? = some c) (ha:actOK u c (5,T,X,Y,G,N,op,nx,el)):∃ o,bF u t n e l c (5,T,X,Y,G,N,op,nx,el)=some o∧bR u t n e l c (5,T,X,Y,G,N,op,nx,el)=some o∧HC o:=by
 obtain ⟨c',hc',hv⟩:=he.c
 obtain rfl:c'=c:=by rw [hc] at hc';exact (Option.some.inj hc').symm
 have cv:=(hu.ts c' (mG0 hc')).v
 have V0:e.2.1.length≤1000:=by omega
 have G0:e.2.2.1.length≤1000:=by rw [he.g];have:=hu.g;omega
 have A0:e.2.2.2.1.length≤1000:=by rw [he.a];have:=hu.a;omega
 have hE:=hl.e
 have hm:=he.must
 have hy:=he.may
 have hn':l.length<9223372036854775807:=by omega
 have hn2:l.length<1000000000000:=by omega
 have hT:0≤T∧T<c'.1:=Zy.1 ha.h1
 have eT:decide (0≤T)=true:=dT0 hT.1
 have lT:T.toNat<e.2.1.length:=by omega
 have hG:0≤G∧G<(u.1.length:Int):=Zy.1 ha.h4
 have eG:decide (0≤G)=true:=dT0 hG.1
 have lG:G.toNat<e.2.2.1.length:=by rw [he.g];omega
 obtain ⟨gd,hgd⟩:=ZJ e.2.2.1 G (by rw [he.g];omega)
 have r1:=ZoK u t e l false G gd hG.1 hgd hm hE hn'
 have r2:=ZDt t e l false G gd hG.1 hgd hm hE hn'
 apply exO
 ·simp only [F_5,Qb,r1,List.nil_append,List.length_nil,Nat.zero_add,List.length_set,limc V0,limc G0,limc A0,cond_true,cond_false,Zc,Bool.not_true,Bool.not_false,eT,look lT]
  rfl
 ·(simp only [R_5,Qd,r2,Zw,YR e T _ hT.1 (by omega) V0,List.nil_append,List.length_nil,Nat.zero_add,List.length_set,limc V0,limc G0,limc A0,cond_true,cond_false,Zc,Bool.not_true,Bool.not_false])<;>rfl
 ·refine ⟨⟨?_,?_,?_⟩,⟨?_,?_,?_⟩,?_,?_,?_⟩<;>simp only [List.length_set,List.length_nil,List.length_cons,gmap,List.length_mapIdx]<;>omega
theorem Z0J (u:U) (t n:Int) (e:E) (l:List En) (c:C) (T X Y G N op nx el:Int) (h0:0≤t) (hu:unitOK u) (hl:tabOK l) (hn:l.length≤1000) (he:envOK u t e) (hc:u.2.2.2[t.toNat]? = some c) (ha:actOK u c (6,T,X,Y,G,N,op,nx,el)):∃ o,bF u t n e l c (6,T,X,Y,G,N,op,nx,el)=some o∧bR u t n e l c (6,T,X,Y,G,N,op,nx,el)=some o∧HC o:=by
 obtain ⟨c',hc',hv⟩:=he.c
 obtain rfl:c'=c:=by rw [hc] at hc';exact (Option.some.inj hc').symm
 have cv:=(hu.ts c' (mG0 hc')).v
 have V0:e.2.1.length≤1000:=by omega
 have G0:e.2.2.1.length≤1000:=by rw [he.g];have:=hu.g;omega
 have A0:e.2.2.2.1.length≤1000:=by rw [he.a];have:=hu.a;omega
 have hE:=hl.e
 have hm:=he.must
 have hy:=he.may
 have hn':l.length<9223372036854775807:=by omega
 have hn2:l.length<1000000000000:=by omega
 have hX:0≤X∧X<c'.1:=Zy.1 ha.h2
 have eX:decide (0≤X)=true:=dT0 hX.1
 have lX:X.toNat<e.2.1.length:=by omega
 obtain ⟨x,gx⟩:=ZJ e.2.1 X (by omega)
 have vx:=he.v x (List.mem_append_left _ (List.mem_append_left _ (mG0 gx)))
 have hG:0≤G∧G<(u.1.length:Int):=Zy.1 ha.h4
 have eG:decide (0≤G)=true:=dT0 hG.1
 have lG:G.toNat<e.2.2.1.length:=by rw [he.g];omega
 obtain ⟨gd,hgd⟩:=ZJ e.2.2.1 G (by rw [he.g];omega)
 apply exO
 ·simp only [F_6,gx,List.nil_append,List.length_nil,Nat.zero_add,List.length_set,limc V0,limc G0,limc A0,cond_true,cond_false,Zc,Bool.not_true,Bool.not_false,eX,eG,look lG]
  rfl
 ·(simp only [R_6,gx,eX,eG,look lG,List.nil_append,List.length_nil,Nat.zero_add,List.length_set,limc V0,limc G0,limc A0,cond_true,cond_false,Zc,Bool.not_true,Bool.not_false])<;>rfl
 ·refine ⟨⟨?_,?_,?_⟩,⟨?_,?_,?_⟩,?_,?_,?_⟩<;>simp only [List.length_set,List.length_nil,List.length_cons,gmap,List.length_mapIdx]<;>omega
theorem ZZO (u:U) (t n:Int) (e:E) (l:List En) (c:C) (T X Y G N op nx el:Int) (h0:0≤t) (hu:unitOK u) (hl:tabOK l) (hn:l.length≤1000) (he:envOK u t e) (hc:u.2.2.2[t.toNat]? = some c) (ha:actOK u c (12,T,X,Y,G,N,op,nx,el)):∃ o,bF u t n e l c (12,T,X,Y,G,N,op,nx,el)=some o∧bR u t n e l c (12,T,X,Y,G,N,op,nx,el)=some o∧HC o:=by
 obtain ⟨c',hc',hv⟩:=he.c
 obtain rfl:c'=c:=by rw [hc] at hc';exact (Option.some.inj hc').symm
 have cv:=(hu.ts c' (mG0 hc')).v
 have V0:e.2.1.length≤1000:=by omega
 have G0:e.2.2.1.length≤1000:=by rw [he.g];have:=hu.g;omega
 have A0:e.2.2.2.1.length≤1000:=by rw [he.a];have:=hu.a;omega
 have hE:=hl.e
 have hm:=he.must
 have hy:=he.may
 have hn':l.length<9223372036854775807:=by omega
 have hn2:l.length<1000000000000:=by omega
 apply exO
 ·simp only [ZWP]
  rfl
 ·(simp only [Z0y])<;>rfl
 ·refine ⟨⟨?_,?_,?_⟩,⟨?_,?_,?_⟩,?_,?_,?_⟩<;>simp only [List.length_set,List.length_nil,List.length_cons,gmap,List.length_mapIdx]<;>omega
theorem ZZP (u:U) (t n:Int) (e:E) (l:List En) (c:C) (T X Y G N op nx el:Int) (h0:0≤t) (hu:unitOK u) (hl:tabOK l) (hn:l.length≤1000) (he:envOK u t e) (hc:u.2.2.2[t.toNat]? = some c) (ha:actOK u c (13,T,X,Y,G,N,op,nx,el)):∃ o,bF u t n e l c (13,T,X,Y,G,N,op,nx,el)=some o∧bR u t n e l c (13,T,X,Y,G,N,op,nx,el)=some o∧HC o:=by
 obtain ⟨c',hc',hv⟩:=he.c
 obtain rfl:c'=c:=by rw [hc] at hc';exact (Option.some.inj hc').symm
 have cv:=(hu.ts c' (mG0 hc')).v
 have V0:e.2.1.length≤1000:=by omega
 have G0:e.2.2.1.length≤1000:=by rw [he.g];have:=hu.g;omega
 have A0:e.2.2.2.1.length≤1000:=by rw [he.a];have:=hu.a;omega
 have hE:=hl.e
 have hm:=he.must
 have hy:=he.may
 have hn':l.length<9223372036854775807:=by omega
 have hn2:l.length<1000000000000:=by omega
 apply exO
 ·simp only [ZWQ]
  rfl
 ·(simp only [Z0z])<;>rfl
 ·refine ⟨⟨?_,?_,?_⟩,⟨?_,?_,?_⟩,?_,?_,?_⟩<;>simp only [List.length_set,List.length_nil,List.length_cons,gmap,List.length_mapIdx]<;>omega
theorem ZZQ (u:U) (t n:Int) (e:E) (l:List En) (c:C) (T X Y G N op nx el:Int) (h0:0≤t) (hu:unitOK u) (hl:tabOK l) (hn:l.length≤1000) (he:envOK u t e) (hc:u.2.2.2[t.toNat]? = some c) (ha:actOK u c (14,T,X,Y,G,N,op,nx,el)):∃ o,bF u t n e l c (14,T,X,Y,G,N,op,nx,el)=some o∧bR u t n e l c (14,T,X,Y,G,N,op,nx,el)=some o∧HC o:=by
 obtain ⟨c',hc',hv⟩:=he.c
 obtain rfl:c'=c:=by rw [hc] at hc';exact (Option.some.inj hc').symm
 have cv:=(hu.ts c' (mG0 hc')).v
 have V0:e.2.1.length≤1000:=by omega
 have G0:e.2.2.1.length≤1000:=by rw [he.g];have:=hu.g;omega
 have A0:e.2.2.2.1.length≤1000:=by rw [he.a];have:=hu.a;omega
 have hE:=hl.e
 have hm:=he.must
 have hy:=he.may
 have hn':l.length<9223372036854775807:=by omega
 have hn2:l.length<1000000000000:=by omega
 apply exO
 ·simp only [ZWR]
  rfl
 ·(simp only [Z0A])<;>rfl
 ·refine ⟨⟨?_,?_,?_⟩,⟨?_,?_,?_⟩,?_,?_,?_⟩<;>simp only [List.length_set,List.length_nil,List.length_cons,gmap,List.length_mapIdx]<;>omega
def Zf:E:=(false,[],[],[],0,0)
def setE (e:E) (T:Int) (v:I):E:=(e.1,e.2.1.set T.toNat v,e.2.2)
def sideV (e:E) (X Y r:Int) (x y:I):E:=
 bif X==Y then bif Zd (mSpan (refI r x y).1 (refI r x y).2) then Zf else setE (setE e X (mSpan (refI r x y).1 (refI r x y).2)) Y (mSpan (refI r x y).1 (refI r x y).2)
 else bif Zd (refI r x y).1 then Zf else bif Zd (refI r x y).2 then Zf else setE (setE e X (refI r x y).1) Y (refI r x y).2
theorem decE (z:I):decide (z.1>z.2)=Zd z:=rfl
theorem ZMj (u:U) (t n:Int) (e:E) (l:List En) (c:C) (T X Y G N op nx el:Int)  (hu:unitOK u) (hE:∀ x∈l,entOK x) (hn:l.length≤1000) (he:envOK u t e) (hc:u.2.2.2[t.toNat]? = some c) (ha:actOK u c (1,T,X,Y,G,N,op,nx,el)):bF u t n e l c (1,T,X,Y,G,N,op,nx,el)=some (setE e T (N,N),Zf,[],[],[]):=by
 obtain ⟨c',hc',hv⟩:=he.c
 obtain rfl:c'=c:=by rw [hc] at hc';exact (Option.some.inj hc').symm
 have cv:=(hu.ts c' (mG0 hc')).v
 have V0:e.2.1.length≤1000:=by omega
 have G0:e.2.2.1.length≤1000:=by rw [he.g];have:=hu.g;omega
 have A0:e.2.2.2.1.length≤1000:=by rw [he.a];have:=hu.a;omega
 have hm:=he.must
 have hy:=he.may
 have hn':l.length<9223372036854775807:=by omega
 have hn2:l.length<1000000000000:=by omega
 have hT:0≤T∧T<c'.1:=Zy.1 ha.h1
 have eT:decide (0≤T)=true:=dT0 hT.1
 have lT:T.toNat<e.2.1.length:=by omega
 have hN:fitB N=true:=ha.n
 (simp only [F_1,ZNE N hN,List.nil_append,List.length_nil,Nat.zero_add,List.length_set,limc V0,limc G0,limc A0,cond_true,cond_false,Zc,Bool.not_true,Bool.not_false,eT,look lT])<;>rfl
theorem ZMk (u:U) (t n:Int) (e:E) (l:List En) (c:C) (T X Y G N op nx el:Int) {x:I} (gx:e.2.1[X.toNat]? = some x) (hu:unitOK u) (hE:∀ x∈l,entOK x) (hn:l.length≤1000) (he:envOK u t e) (hc:u.2.2.2[t.toNat]? = some c) (ha:actOK u c (2,T,X,Y,G,N,op,nx,el)):bF u t n e l c (2,T,X,Y,G,N,op,nx,el)=some (setE e T x,Zf,[],[],[]):=by
 obtain ⟨c',hc',hv⟩:=he.c
 obtain rfl:c'=c:=by rw [hc] at hc';exact (Option.some.inj hc').symm
 have cv:=(hu.ts c' (mG0 hc')).v
 have V0:e.2.1.length≤1000:=by omega
 have G0:e.2.2.1.length≤1000:=by rw [he.g];have:=hu.g;omega
 have A0:e.2.2.2.1.length≤1000:=by rw [he.a];have:=hu.a;omega
 have hm:=he.must
 have hy:=he.may
 have hn':l.length<9223372036854775807:=by omega
 have hn2:l.length<1000000000000:=by omega
 have hT:0≤T∧T<c'.1:=Zy.1 ha.h1
 have eT:decide (0≤T)=true:=dT0 hT.1
 have lT:T.toNat<e.2.1.length:=by omega
 have hX:0≤X∧X<c'.1:=Zy.1 ha.h2
 have eX:decide (0≤X)=true:=dT0 hX.1
 have lX:X.toNat<e.2.1.length:=by omega
 (simp only [F_2,gx,List.nil_append,List.length_nil,Nat.zero_add,List.length_set,limc V0,limc G0,limc A0,cond_true,cond_false,Zc,Bool.not_true,Bool.not_false,eT,eX,look lT])<;>rfl
theorem ZMl (u:U) (t n:Int) (e:E) (l:List En) (c:C) (T X Y G N op nx el:Int)  (hu:unitOK u) (hE:∀ x∈l,entOK x) (hn:l.length≤1000) (he:envOK u t e) (hc:u.2.2.2[t.toNat]? = some c) (ha:actOK u c (3,T,X,Y,G,N,op,nx,el)):bF u t n e l c (3,T,X,Y,G,N,op,nx,el)=some (setE e T (-2147483648,2147483647),Zf,[],[],[]):=by
 obtain ⟨c',hc',hv⟩:=he.c
 obtain rfl:c'=c:=by rw [hc] at hc';exact (Option.some.inj hc').symm
 have cv:=(hu.ts c' (mG0 hc')).v
 have V0:e.2.1.length≤1000:=by omega
 have G0:e.2.2.1.length≤1000:=by rw [he.g];have:=hu.g;omega
 have A0:e.2.2.2.1.length≤1000:=by rw [he.a];have:=hu.a;omega
 have hm:=he.must
 have hy:=he.may
 have hn':l.length<9223372036854775807:=by omega
 have hn2:l.length<1000000000000:=by omega
 have hT:0≤T∧T<c'.1:=Zy.1 ha.h1
 have eT:decide (0≤T)=true:=dT0 hT.1
 have lT:T.toNat<e.2.1.length:=by omega
 (simp only [F_3,List.nil_append,List.length_nil,Nat.zero_add,List.length_set,limc V0,limc G0,limc A0,cond_true,cond_false,Zc,Bool.not_true,Bool.not_false,eT,look lT])<;>rfl
theorem ZMm (u:U) (t n:Int) (e:E) (l:List En) (c:C) (T X Y G N op nx el:Int) {x:I} (gx:e.2.1[X.toNat]? = some x) {y:I} (gy:e.2.1[Y.toNat]? = some y) (hu:unitOK u) (hE:∀ x∈l,entOK x) (hn:l.length≤1000) (he:envOK u t e) (hc:u.2.2.2[t.toNat]? = some c) (ha:actOK u c (4,T,X,Y,G,N,op,nx,el)):bF u t n e l c (4,T,X,Y,G,N,op,nx,el)=some (bif Zd (doI op x y).1 then Zf else setE e T (doI op x y).1,Zf,(bif (doI op x y).2.1 then [7] else [])++(bif (doI op x y).2.2 then [8] else []),[],[]):=by
 obtain ⟨c',hc',hv⟩:=he.c
 obtain rfl:c'=c:=by rw [hc] at hc';exact (Option.some.inj hc').symm
 have cv:=(hu.ts c' (mG0 hc')).v
 have V0:e.2.1.length≤1000:=by omega
 have G0:e.2.2.1.length≤1000:=by rw [he.g];have:=hu.g;omega
 have A0:e.2.2.2.1.length≤1000:=by rw [he.a];have:=hu.a;omega
 have hm:=he.must
 have hy:=he.may
 have hn':l.length<9223372036854775807:=by omega
 have hn2:l.length<1000000000000:=by omega
 have hT:0≤T∧T<c'.1:=Zy.1 ha.h1
 have eT:decide (0≤T)=true:=dT0 hT.1
 have lT:T.toNat<e.2.1.length:=by omega
 have hX:0≤X∧X<c'.1:=Zy.1 ha.h2
 have eX:decide (0≤X)=true:=dT0 hX.1
 have lX:X.toNat<e.2.1.length:=by omega
 have hY:0≤Y∧Y<c'.1:=Zy.1 ha.h3
 have eY:decide (0≤Y)=true:=dT0 hY.1
 have lY:Y.toNat<e.2.1.length:=by omega
 have vx:=he.v x (List.mem_append_left _ (List.mem_append_left _ (mG0 gx)))
 have vy:=he.v y (List.mem_append_left _ (List.mem_append_left _ (mG0 gy)))
 have d1:=ZNU op x y vx.1 vy.1
 generalize doI op x y=r at d1
 obtain ⟨z,o,w⟩:=r
 simp only at d1
 cases o<;>cases w<;>cases k:Zd z
 all_goals (simp only [F_4,gx,gy,ZnP,d1,decE,k,List.nil_append,List.length_nil,Nat.zero_add,List.length_set,limc V0,limc G0,limc A0,cond_true,cond_false,Zc,Bool.not_true,Bool.not_false,eT,eX,eY,look lT])<;>rfl
theorem ZMn (u:U) (t n:Int) (e:E) (l:List En) (c:C) (T X Y G N op nx el:Int) {gd:I} (hgd:e.2.2.1[G.toNat]? = some gd) (hu:unitOK u) (hE:∀ x∈l,entOK x) (hn:l.length≤1000) (he:envOK u t e) (hc:u.2.2.2[t.toNat]? = some c) (ha:actOK u c (5,T,X,Y,G,N,op,nx,el)):bF u t n e l c (5,T,X,Y,G,N,op,nx,el)=some (setE e T (readV gd l t false G e.2.2.2.2.1),Zf,[],[],[(t,n,false,G,false,e.2.2.2.2.1)]):=by
 obtain ⟨c',hc',hv⟩:=he.c
 obtain rfl:c'=c:=by rw [hc] at hc';exact (Option.some.inj hc').symm
 have cv:=(hu.ts c' (mG0 hc')).v
 have V0:e.2.1.length≤1000:=by omega
 have G0:e.2.2.1.length≤1000:=by rw [he.g];have:=hu.g;omega
 have A0:e.2.2.2.1.length≤1000:=by rw [he.a];have:=hu.a;omega
 have hm:=he.must
 have hy:=he.may
 have hn':l.length<9223372036854775807:=by omega
 have hn2:l.length<1000000000000:=by omega
 have hT:0≤T∧T<c'.1:=Zy.1 ha.h1
 have eT:decide (0≤T)=true:=dT0 hT.1
 have lT:T.toNat<e.2.1.length:=by omega
 have hG:0≤G∧G<(u.1.length:Int):=Zy.1 ha.h4
 have eG:decide (0≤G)=true:=dT0 hG.1
 have lG:G.toNat<e.2.2.1.length:=by rw [he.g];omega
 have r1:=ZoK u t e l false G gd hG.1 hgd hm hE hn'
 (simp only [F_5,Qb,r1,List.nil_append,List.length_nil,Nat.zero_add,List.length_set,limc V0,limc G0,limc A0,cond_true,cond_false,Zc,Bool.not_true,Bool.not_false,eT,look lT])<;>rfl
theorem ZMo (u:U) (t n:Int) (e:E) (l:List En) (c:C) (T X Y G N op nx el:Int) {x:I} (gx:e.2.1[X.toNat]? = some x) (hu:unitOK u) (hE:∀ x∈l,entOK x) (hn:l.length≤1000) (he:envOK u t e) (hc:u.2.2.2[t.toNat]? = some c) (ha:actOK u c (6,T,X,Y,G,N,op,nx,el)):bF u t n e l c (6,T,X,Y,G,N,op,nx,el)=some ((e.1,e.2.1,e.2.2.1.set G.toNat x,e.2.2.2),Zf,[],[(t,false,G,e.2.2.2.2.1,x)],[(t,n,false,G,true,e.2.2.2.2.1)]):=by
 obtain ⟨c',hc',hv⟩:=he.c
 obtain rfl:c'=c:=by rw [hc] at hc';exact (Option.some.inj hc').symm
 have cv:=(hu.ts c' (mG0 hc')).v
 have V0:e.2.1.length≤1000:=by omega
 have G0:e.2.2.1.length≤1000:=by rw [he.g];have:=hu.g;omega
 have A0:e.2.2.2.1.length≤1000:=by rw [he.a];have:=hu.a;omega
 have hm:=he.must
 have hy:=he.may
 have hn':l.length<9223372036854775807:=by omega
 have hn2:l.length<1000000000000:=by omega
 have hX:0≤X∧X<c'.1:=Zy.1 ha.h2
 have eX:decide (0≤X)=true:=dT0 hX.1
 have lX:X.toNat<e.2.1.length:=by omega
 have hG:0≤G∧G<(u.1.length:Int):=Zy.1 ha.h4
 have eG:decide (0≤G)=true:=dT0 hG.1
 have lG:G.toNat<e.2.2.1.length:=by rw [he.g];omega
 (simp only [F_6,gx,List.nil_append,List.length_nil,Nat.zero_add,List.length_set,limc V0,limc G0,limc A0,cond_true,cond_false,Zc,Bool.not_true,Bool.not_false,eX,eG,look lG])<;>rfl
theorem ZMp (u:U) (t n:Int) (e:E) (l:List En) (c:C) (T X Y G N op nx el:Int) {x:I} (gx:e.2.1[X.toNat]? = some x) {m:Int} (gm:u.2.1[G.toNat]? = some m) {gd:I} (hgd:e.2.2.2.1[G.toNat]? = some gd) (hu:unitOK u) (hE:∀ x∈l,entOK x) (hn:l.length≤1000) (he:envOK u t e) (hc:u.2.2.2[t.toNat]? = some c) (ha:actOK u c (7,T,X,Y,G,N,op,nx,el)):bF u t n e l c (7,T,X,Y,G,N,op,nx,el)=some (bif Zd (mSpan x (0,m - 1)) then Zf else setE (setE e X (mSpan x (0,m - 1))) T (readV gd l t true G e.2.2.2.2.1),Zf,(bif leqB x (0,m - 1) then [] else [9]),[],[(t,n,true,G,false,e.2.2.2.2.1)]):=by
 obtain ⟨c',hc',hv⟩:=he.c
 obtain rfl:c'=c:=by rw [hc] at hc';exact (Option.some.inj hc').symm
 have cv:=(hu.ts c' (mG0 hc')).v
 have V0:e.2.1.length≤1000:=by omega
 have G0:e.2.2.1.length≤1000:=by rw [he.g];have:=hu.g;omega
 have A0:e.2.2.2.1.length≤1000:=by rw [he.a];have:=hu.a;omega
 have hm:=he.must
 have hy:=he.may
 have hn':l.length<9223372036854775807:=by omega
 have hn2:l.length<1000000000000:=by omega
 have hT:0≤T∧T<c'.1:=Zy.1 ha.h1
 have eT:decide (0≤T)=true:=dT0 hT.1
 have lT:T.toNat<e.2.1.length:=by omega
 have hX:0≤X∧X<c'.1:=Zy.1 ha.h2
 have eX:decide (0≤X)=true:=dT0 hX.1
 have lX:X.toNat<e.2.1.length:=by omega
 have vx:=he.v x (List.mem_append_left _ (List.mem_append_left _ (mG0 gx)))
 have hG:0≤G∧G<(u.2.1.length:Int):=Zy.1 ha.h4
 have eG:decide (0≤G)=true:=dT0 hG.1
 have lG:G.toNat<e.2.2.2.1.length:=by rw [he.a];omega
 have vm:=hu.ars m (mG0 gm)
 have hr:IntKind.i64.wrap (m - 1)=m - 1:=ZjP (by omega) (by omega)
 have r0:Zd (0,m - 1)=false:=Z6 (by show (0:Int)≤m - 1;omega)
 have rB:isB (0,m - 1)=true:=by simp [isB,fitB];omega
 have q1:=Zg5 x (0,m - 1)
 have q2:=Zhu x (0,m - 1)
 have q3:=VF x (0,m - 1)
 have q4:=ZcP x (0,m - 1)
 rw [ZcO vx.2 r0] at q3
 have zB:=ZjC (y:=x) (p:=(0,m - 1)) vx.1 rB
 generalize mSpan x (0,m - 1)=z at q3 q4 zB
 have r1:=ZoK u t (e.1,e.2.1.set X.toNat z,e.2.2) l true G gd hG.1 hgd hm hE hn'
 have lT2:T.toNat<(e.2.1.set X.toNat z).length:=by rw [List.length_set];exact lT
 cases k1:leqB x (0,m - 1)<;>cases k2:Zd z
 all_goals rw [k1] at q1
 all_goals (simp only [F_7,gm,gx,hr,Qp,q1,ZC,q3,decE,k2,Qb,r1,List.nil_append,List.length_nil,Nat.zero_add,List.length_set,limc V0,limc G0,limc A0,cond_true,cond_false,Zc,Bool.not_true,Bool.not_false,eT,eX,eG,look lX,look lT2])<;>rfl
theorem ZMq (u:U) (t n:Int) (e:E) (l:List En) (c:C) (T X Y G N op nx el:Int) {x:I} (gx:e.2.1[X.toNat]? = some x) {y:I} (gy:e.2.1[Y.toNat]? = some y) {m:Int} (gm:u.2.1[G.toNat]? = some m) {gd y':I} (hgd:e.2.2.2.1[G.toNat]? = some gd) (gy':(e.2.1.set X.toNat (mSpan x (0,m - 1)))[Y.toNat]? = some y') (hu:unitOK u) (hE:∀ x∈l,entOK x) (hn:l.length≤1000) (he:envOK u t e) (hc:u.2.2.2[t.toNat]? = some c) (ha:actOK u c (8,T,X,Y,G,N,op,nx,el)):bF u t n e l c (8,T,X,Y,G,N,op,nx,el)=some (bif Zd (mSpan x (0,m - 1)) then Zf else (e.1,e.2.1.set X.toNat (mSpan x (0,m - 1)),e.2.2.1,e.2.2.2.1.set G.toNat (rJoin gd y'),e.2.2.2.2),Zf,(bif leqB x (0,m - 1) then [] else [9]),[(t,true,G,e.2.2.2.2.1,y)],[(t,n,true,G,true,e.2.2.2.2.1)]):=by
 obtain ⟨c',hc',hv⟩:=he.c
 obtain rfl:c'=c:=by rw [hc] at hc';exact (Option.some.inj hc').symm
 have cv:=(hu.ts c' (mG0 hc')).v
 have V0:e.2.1.length≤1000:=by omega
 have G0:e.2.2.1.length≤1000:=by rw [he.g];have:=hu.g;omega
 have A0:e.2.2.2.1.length≤1000:=by rw [he.a];have:=hu.a;omega
 have hm:=he.must
 have hy:=he.may
 have hn':l.length<9223372036854775807:=by omega
 have hn2:l.length<1000000000000:=by omega
 have hX:0≤X∧X<c'.1:=Zy.1 ha.h2
 have eX:decide (0≤X)=true:=dT0 hX.1
 have lX:X.toNat<e.2.1.length:=by omega
 have hY:0≤Y∧Y<c'.1:=Zy.1 ha.h3
 have eY:decide (0≤Y)=true:=dT0 hY.1
 have lY:Y.toNat<e.2.1.length:=by omega
 have vx:=he.v x (List.mem_append_left _ (List.mem_append_left _ (mG0 gx)))
 have hG:0≤G∧G<(u.2.1.length:Int):=Zy.1 ha.h4
 have eG:decide (0≤G)=true:=dT0 hG.1
 have lG:G.toNat<e.2.2.2.1.length:=by rw [he.a];omega
 have vm:=hu.ars m (mG0 gm)
 have hr:IntKind.i64.wrap (m - 1)=m - 1:=ZjP (by omega) (by omega)
 have r0:Zd (0,m - 1)=false:=Z6 (by show (0:Int)≤m - 1;omega)
 have rB:isB (0,m - 1)=true:=by simp [isB,fitB];omega
 have q1:=Zg5 x (0,m - 1)
 have q2:=Zhu x (0,m - 1)
 have q3:=VF x (0,m - 1)
 have q4:=ZcP x (0,m - 1)
 rw [ZcO vx.2 r0] at q3
 have zB:=ZjC (y:=x) (p:=(0,m - 1)) vx.1 rB
 generalize mSpan x (0,m - 1)=z at q3 q4 zB gy'
 cases k1:leqB x (0,m - 1)<;>cases k2:Zd z
 all_goals
  rw [k1] at q1
  have yB:Zd z=false→isB y'=true:=fun h=>by
   rcases List.mem_or_eq_of_mem_set (mG0 gy') with h1 | h1
   ·exact (he.v y' (List.mem_append_left _ (List.mem_append_left _ h1))).1
   ·rw [h1];exact zB h
  have JE:(Zl gd y'=rJoin gd y')∨Zd z=true:=by
   cases h:Zd z
   ·exact .inl (Zav (yB h))
   ·exact .inr rfl
  rw [k2] at JE
  simp only [Bool.true_eq_false,Bool.false_eq_true,or_false,or_true] at JE
  (simp only [F_8,gm,gx,gy,gy',hgd,hr,Qp,q1,ZC,q3,decE,k2,ZM,Vo,JE,List.nil_append,List.length_nil,Nat.zero_add,List.length_set,limc V0,limc G0,limc A0,cond_true,cond_false,Zc,Bool.not_true,Bool.not_false,eY,eX,eG,look lX])<;>rfl
theorem ZMr (u:U) (t n:Int) (e:E) (l:List En) (c:C) (T X Y G N op nx el:Int)  (hu:unitOK u) (hE:∀ x∈l,entOK x) (hn:l.length≤1000) (he:envOK u t e) (hc:u.2.2.2[t.toNat]? = some c) (ha:actOK u c (9,T,X,Y,G,N,op,nx,el)):bF u t n e l c (9,T,X,Y,G,N,op,nx,el)=some (bif tb e.2.2.2.2.1 G then Zf else (e.1,e.2.1,gmap l t false e.2.2.2.2.1 G e.2.2.1,gmap l t true e.2.2.2.2.1 G e.2.2.2.1,wiI e.2.2.2.2.1 G,wiI e.2.2.2.2.2 G),Zf,(bif tb e.2.2.2.2.2 G then [11] else []),[],[]):=by
 obtain ⟨c',hc',hv⟩:=he.c
 obtain rfl:c'=c:=by rw [hc] at hc';exact (Option.some.inj hc').symm
 have cv:=(hu.ts c' (mG0 hc')).v
 have V0:e.2.1.length≤1000:=by omega
 have G0:e.2.2.1.length≤1000:=by rw [he.g];have:=hu.g;omega
 have A0:e.2.2.2.1.length≤1000:=by rw [he.a];have:=hu.a;omega
 have hm:=he.must
 have hy:=he.may
 have hn':l.length<9223372036854775807:=by omega
 have hn2:l.length<1000000000000:=by omega
 have hG:0≤G∧G<u.2.2.1:=Zy.1 ha.h4
 have hM:0≤G∧G<31:=by have:=hu.m;omega
 have a1:=ZaI e.2.2.2.2.1 G (by omega)
 have a2:=ZaI e.2.2.2.2.2 G (by omega)
 have w1:=ZoL e.2.2.2.2.1 G hm
 have w2:=ZoL e.2.2.2.2.2 G hy
 have G1:e.2.2.1.length<9223372036854775807:=by omega
 have A1:e.2.2.2.1.length<9223372036854775807:=by omega
 cases k1:tb e.2.2.2.2.1 G<;>cases k2:tb e.2.2.2.2.2 G
 all_goals
  rw [k1] at a1
  rw [k2] at a2
  (simp only [F_9,ZY,a1,a2,KH,w1,w2,Z7,Zki,Hg hm hE hn2 G1,Hg hm hE hn2 A1,List.nil_append,List.length_nil,Nat.zero_add,List.length_set,limc V0,limc G0,limc A0,cond_true,cond_false,Zc,Bool.not_true,Bool.not_false])<;>rfl
theorem ZIx (u:U) (t n:Int) (e:E) (l:List En) (c:C) (T X Y G N op nx el:Int)  (hu:unitOK u) (hE:∀ x∈l,entOK x) (hn:l.length≤1000) (he:envOK u t e) (hc:u.2.2.2[t.toNat]? = some c) (ha:actOK u c (10,T,X,Y,G,N,op,nx,el)):bF u t n e l c (10,T,X,Y,G,N,op,nx,el)=some (bif tb e.2.2.2.2.2 G then (e.1,e.2.1,e.2.2.1,e.2.2.2.1,woI e.2.2.2.2.1 G,woI e.2.2.2.2.2 G) else Zf,Zf,(bif tb e.2.2.2.2.1 G then [] else [12]),[],[]):=by
 obtain ⟨c',hc',hv⟩:=he.c
 obtain rfl:c'=c:=by rw [hc] at hc';exact (Option.some.inj hc').symm
 have cv:=(hu.ts c' (mG0 hc')).v
 have V0:e.2.1.length≤1000:=by omega
 have G0:e.2.2.1.length≤1000:=by rw [he.g];have:=hu.g;omega
 have A0:e.2.2.2.1.length≤1000:=by rw [he.a];have:=hu.a;omega
 have hm:=he.must
 have hy:=he.may
 have hn':l.length<9223372036854775807:=by omega
 have hn2:l.length<1000000000000:=by omega
 have hG:0≤G∧G<u.2.2.1:=Zy.1 ha.h4
 have hM:0≤G∧G<31:=by have:=hu.m;omega
 have a1:=ZaI e.2.2.2.2.1 G (by omega)
 have a2:=ZaI e.2.2.2.2.2 G (by omega)
 cases k1:tb e.2.2.2.2.1 G<;>cases k2:tb e.2.2.2.2.2 G
 all_goals
  rw [k1] at a1
  rw [k2] at a2
  (simp only [ZWO,ZY,a1,a2,Qx,ZwJ,List.nil_append,List.length_nil,Nat.zero_add,List.length_set,limc V0,limc G0,limc A0,cond_true,cond_false,Zc,Bool.not_true,Bool.not_false])<;>rfl
theorem ZIy (u:U) (t n:Int) (e:E) (l:List En) (c:C) (T X Y G N op nx el:Int) {x:I} (gx:e.2.1[X.toNat]? = some x) {y:I} (gy:e.2.1[Y.toNat]? = some y) {w:Int} (n1:Zo4 op=some w) (hu:unitOK u) (hE:∀ x∈l,entOK x) (hn:l.length≤1000) (he:envOK u t e) (hc:u.2.2.2[t.toNat]? = some c) (ha:actOK u c (11,T,X,Y,G,N,op,nx,el)):bF u t n e l c (11,T,X,Y,G,N,op,nx,el)=some (sideV e X Y op x y,sideV e X Y w x y,[],[],[]):=by
 obtain ⟨c',hc',hv⟩:=he.c
 obtain rfl:c'=c:=by rw [hc] at hc';exact (Option.some.inj hc').symm
 have cv:=(hu.ts c' (mG0 hc')).v
 have V0:e.2.1.length≤1000:=by omega
 have G0:e.2.2.1.length≤1000:=by rw [he.g];have:=hu.g;omega
 have A0:e.2.2.2.1.length≤1000:=by rw [he.a];have:=hu.a;omega
 have hm:=he.must
 have hy:=he.may
 have hn':l.length<9223372036854775807:=by omega
 have hn2:l.length<1000000000000:=by omega
 have hX:0≤X∧X<c'.1:=Zy.1 ha.h2
 have eX:decide (0≤X)=true:=dT0 hX.1
 have lX:X.toNat<e.2.1.length:=by omega
 have hY:0≤Y∧Y<c'.1:=Zy.1 ha.h3
 have eY:decide (0≤Y)=true:=dT0 hY.1
 have lY:Y.toNat<e.2.1.length:=by omega
 have vx:=he.v x (List.mem_append_left _ (List.mem_append_left _ (mG0 gx)))
 have vy:=he.v y (List.mem_append_left _ (List.mem_append_left _ (mG0 gy)))
 have f1:=Zmz op x y vx.1 vy.1
 have f3:=Zmz w x y vx.1 vy.1
 have p1:=Zy7 op x y
 have p3:=Zy7 w x y
 unfold sideV
 generalize refI op x y=a at f1 p1
 generalize refI w x y=b at f3 p3
 have m1:=VF a.1 a.2
 have m3:=VF b.1 b.2
 rw [p1] at m1
 rw [p3] at m3
 generalize mSpan a.1 a.2=z at m1
 generalize mSpan b.1 b.2=o at m3
 have lY2 (v:I):Y.toNat<(e.2.1.set X.toNat v).length:=by rw [List.length_set];exact lY
 cases kXY:X==Y
 ·cases k1:Zd a.1<;>cases k2:Zd a.2<;>cases k3:Zd b.1<;>cases k4:Zd b.2
  all_goals (simp only [ZRe,gx,gy,ZW,f1,f3,QR,n1,ZC,m1,m3,kXY,ZjQ,Zml,decE,k1,k2,k3,k4,List.nil_append,List.length_nil,Nat.zero_add,List.length_set,limc V0,limc G0,limc A0,cond_true,cond_false,Zc,Bool.not_true,Bool.not_false,eX,eY,look lX,look (lY2 _)])<;>rfl
 ·cases k1:Zd z<;>cases k3:Zd o
  all_goals (simp only [ZRe,gx,gy,ZW,f1,f3,QR,n1,ZC,m1,m3,kXY,ZjQ,Zml,decE,k1,k3,List.nil_append,List.length_nil,Nat.zero_add,List.length_set,limc V0,limc G0,limc A0,cond_true,cond_false,Zc,Bool.not_true,Bool.not_false,eX,eY,look lX,look (lY2 _)])<;>rfl
theorem ZIz (u:U) (t n:Int) (e:E) (l:List En) (c:C) (T X Y G N op nx el:Int)  (hu:unitOK u) (hE:∀ x∈l,entOK x) (hn:l.length≤1000) (he:envOK u t e) (hc:u.2.2.2[t.toNat]? = some c) (ha:actOK u c (12,T,X,Y,G,N,op,nx,el)):bF u t n e l c (12,T,X,Y,G,N,op,nx,el)=some (e,Zf,[],[],[]):=by
 obtain ⟨c',hc',hv⟩:=he.c
 obtain rfl:c'=c:=by rw [hc] at hc';exact (Option.some.inj hc').symm
 have cv:=(hu.ts c' (mG0 hc')).v
 have V0:e.2.1.length≤1000:=by omega
 have G0:e.2.2.1.length≤1000:=by rw [he.g];have:=hu.g;omega
 have A0:e.2.2.2.1.length≤1000:=by rw [he.a];have:=hu.a;omega
 have hm:=he.must
 have hy:=he.may
 have hn':l.length<9223372036854775807:=by omega
 have hn2:l.length<1000000000000:=by omega
 (simp only [ZWP])<;>rfl
theorem ZIA (u:U) (t n:Int) (e:E) (l:List En) (c:C) (T X Y G N op nx el:Int)  (hu:unitOK u) (hE:∀ x∈l,entOK x) (hn:l.length≤1000) (he:envOK u t e) (hc:u.2.2.2[t.toNat]? = some c) (ha:actOK u c (13,T,X,Y,G,N,op,nx,el)):bF u t n e l c (13,T,X,Y,G,N,op,nx,el)=some (Zf,Zf,[10],[],[]):=by
 obtain ⟨c',hc',hv⟩:=he.c
 obtain rfl:c'=c:=by rw [hc] at hc';exact (Option.some.inj hc').symm
 have cv:=(hu.ts c' (mG0 hc')).v
 have V0:e.2.1.length≤1000:=by omega
 have G0:e.2.2.1.length≤1000:=by rw [he.g];have:=hu.g;omega
 have A0:e.2.2.2.1.length≤1000:=by rw [he.a];have:=hu.a;omega
 have hm:=he.must
 have hy:=he.may
 have hn':l.length<9223372036854775807:=by omega
 have hn2:l.length<1000000000000:=by omega
 (simp only [ZWQ])<;>rfl
theorem ZIB (u:U) (t n:Int) (e:E) (l:List En) (c:C) (T X Y G N op nx el:Int)  (hu:unitOK u) (hE:∀ x∈l,entOK x) (hn:l.length≤1000) (he:envOK u t e) (hc:u.2.2.2[t.toNat]? = some c) (ha:actOK u c (14,T,X,Y,G,N,op,nx,el)):bF u t n e l c (14,T,X,Y,G,N,op,nx,el)=some (Zf,Zf,[],[],[]):=by
 obtain ⟨c',hc',hv⟩:=he.c
 obtain rfl:c'=c:=by rw [hc] at hc';exact (Option.some.inj hc').symm
 have cv:=(hu.ts c' (mG0 hc')).v
 have V0:e.2.1.length≤1000:=by omega
 have G0:e.2.2.1.length≤1000:=by rw [he.g];have:=hu.g;omega
 have A0:e.2.2.2.1.length≤1000:=by rw [he.a];have:=hu.a;omega
 have hm:=he.must
 have hy:=he.may
 have hn':l.length<9223372036854775807:=by omega
 have hn2:l.length<1000000000000:=by omega
 (simp only [ZWR])<;>rfl
theorem Zfn (x:I):leqB x x=true:=by rw [Qs];unfold sub;omega
theorem ZbQ {x y:I} (h:leqB x y=true) (hx:Zd x=false):sub x y∧Zd y=false:=by
 have:=ZR hx
 rw [Qs] at h
 unfold sub at *
 refine ⟨by omega,Z6 (by omega)⟩
def subB (a b:Int):Prop:=∀ i:Nat,a.toNat.testBit i=true→b.toNat.testBit i=true
theorem Z0M (u:U) (t n:Int) (e:E) (l:List En) (c:C) (T X Y G N op nx el:Int) (h0:0≤t) (hu:unitOK u) (hl:tabOK l) (hn:l.length≤1000) (he:envOK u t e) (hc:u.2.2.2[t.toNat]? = some c) (ha:actOK u c (9,T,X,Y,G,N,op,nx,el)):∃ o,bF u t n e l c (9,T,X,Y,G,N,op,nx,el)=some o∧bR u t n e l c (9,T,X,Y,G,N,op,nx,el)=some o∧HC o:=by
 obtain ⟨c',hc',hv⟩:=he.c
 obtain rfl:c'=c:=by rw [hc] at hc';exact (Option.some.inj hc').symm
 have cv:=(hu.ts c' (mG0 hc')).v
 have V0:e.2.1.length≤1000:=by omega
 have G0:e.2.2.1.length≤1000:=by rw [he.g];have:=hu.g;omega
 have A0:e.2.2.2.1.length≤1000:=by rw [he.a];have:=hu.a;omega
 have hE:=hl.e
 have hm:=he.must
 have hy:=he.may
 have hn':l.length<9223372036854775807:=by omega
 have hn2:l.length<1000000000000:=by omega
 have hG:0≤G∧G<u.2.2.1:=Zy.1 ha.h4
 have hM:0≤G∧G<31:=by have:=hu.m;omega
 have a1:=ZaI e.2.2.2.2.1 G (by omega)
 have a2:=ZaI e.2.2.2.2.2 G (by omega)
 have b1:=ZmA e.2.2.2.2.1 G hm
 have b2:=ZmA e.2.2.2.2.2 G hy
 have w1:=ZoL e.2.2.2.2.1 G hm
 have w2:=ZoL e.2.2.2.2.2 G hy
 have z1:=ZFM e.2.2.2.2.1 G hm hM
 have z2:=ZFM e.2.2.2.2.2 G hy hM
 have G1:e.2.2.1.length<9223372036854775807:=by omega
 have A1:e.2.2.2.1.length<9223372036854775807:=by omega
 cases k1:tb e.2.2.2.2.1 G<;>cases k2:tb e.2.2.2.2.2 G
 all_goals
  rw [k1] at a1 b1
  rw [k2] at a2 b2
  apply exO
  ·simp only [F_9,ZY,a1,a2,KH,w1,w2,Z7,Zki,Hg hm hE hn2 G1,Hg hm hE hn2 A1,List.nil_append,List.length_nil,Nat.zero_add,List.length_set,limc V0,limc G0,limc A0,cond_true,cond_false,Zc,Bool.not_true,Bool.not_false]
   rfl
  ·(simp only [R_9,Zjc,ZCS,KM,b1,b2,Zfh,z1,z2,ZyR hm hE hn2 G1,ZyS hm hE hn2 G1,ZyT hm hE hn2 A1,ZyU hm hE hn2 A1,show decide ((0:Int)<((0:Nat):Int))=false from rfl,List.nil_append,List.length_nil,Nat.zero_add,List.length_set,limc V0,limc G0,limc A0,cond_true,cond_false,Zc,Bool.not_true,Bool.not_false])<;>rfl
  ·refine ⟨⟨?_,?_,?_⟩,⟨?_,?_,?_⟩,?_,?_,?_⟩<;>simp only [List.length_set,List.length_nil,List.length_cons,gmap,List.length_mapIdx]<;>omega
theorem ZZM (u:U) (t n:Int) (e:E) (l:List En) (c:C) (T X Y G N op nx el:Int) (h0:0≤t) (hu:unitOK u) (hl:tabOK l) (hn:l.length≤1000) (he:envOK u t e) (hc:u.2.2.2[t.toNat]? = some c) (ha:actOK u c (10,T,X,Y,G,N,op,nx,el)):∃ o,bF u t n e l c (10,T,X,Y,G,N,op,nx,el)=some o∧bR u t n e l c (10,T,X,Y,G,N,op,nx,el)=some o∧HC o:=by
 obtain ⟨c',hc',hv⟩:=he.c
 obtain rfl:c'=c:=by rw [hc] at hc';exact (Option.some.inj hc').symm
 have cv:=(hu.ts c' (mG0 hc')).v
 have V0:e.2.1.length≤1000:=by omega
 have G0:e.2.2.1.length≤1000:=by rw [he.g];have:=hu.g;omega
 have A0:e.2.2.2.1.length≤1000:=by rw [he.a];have:=hu.a;omega
 have hE:=hl.e
 have hm:=he.must
 have hy:=he.may
 have hn':l.length<9223372036854775807:=by omega
 have hn2:l.length<1000000000000:=by omega
 have hG:0≤G∧G<u.2.2.1:=Zy.1 ha.h4
 have hM:0≤G∧G<31:=by have:=hu.m;omega
 have a1:=ZaI e.2.2.2.2.1 G (by omega)
 have a2:=ZaI e.2.2.2.2.2 G (by omega)
 have b1:=ZmA e.2.2.2.2.1 G hm
 have b2:=ZmA e.2.2.2.2.2 G hy
 cases k1:tb e.2.2.2.2.1 G<;>cases k2:tb e.2.2.2.2.2 G
 all_goals
  rw [k1] at a1 b1
  rw [k2] at a2 b2
  apply exO
  ·simp only [ZWO,ZY,a1,a2,Qx,ZwJ,List.nil_append,List.length_nil,Nat.zero_add,List.length_set,limc V0,limc G0,limc A0,cond_true,cond_false,Zc,Bool.not_true,Bool.not_false]
   rfl
  ·(simp only [Z0x,Zgh,Zwx,KM,b1,b2,Zam,ZJw _ _ hM,show decide ((0:Int)<((0:Nat):Int))=false from rfl,List.nil_append,List.length_nil,Nat.zero_add,List.length_set,limc V0,limc G0,limc A0,cond_true,cond_false,Zc,Bool.not_true,Bool.not_false])<;>rfl
  ·refine ⟨⟨?_,?_,?_⟩,⟨?_,?_,?_⟩,?_,?_,?_⟩<;>simp only [List.length_set,List.length_nil,List.length_cons,gmap,List.length_mapIdx]<;>omega
theorem Z0H (u:U) (t n:Int) (e:E) (l:List En) (c:C) (T X Y G N op nx el:Int) (h0:0≤t) (hu:unitOK u) (hl:tabOK l) (hn:l.length≤1000) (he:envOK u t e) (hc:u.2.2.2[t.toNat]? = some c) (ha:actOK u c (4,T,X,Y,G,N,op,nx,el)):∃ o,bF u t n e l c (4,T,X,Y,G,N,op,nx,el)=some o∧bR u t n e l c (4,T,X,Y,G,N,op,nx,el)=some o∧HC o:=by
 obtain ⟨c',hc',hv⟩:=he.c
 obtain rfl:c'=c:=by rw [hc] at hc';exact (Option.some.inj hc').symm
 have cv:=(hu.ts c' (mG0 hc')).v
 have V0:e.2.1.length≤1000:=by omega
 have G0:e.2.2.1.length≤1000:=by rw [he.g];have:=hu.g;omega
 have A0:e.2.2.2.1.length≤1000:=by rw [he.a];have:=hu.a;omega
 have hE:=hl.e
 have hm:=he.must
 have hy:=he.may
 have hn':l.length<9223372036854775807:=by omega
 have hn2:l.length<1000000000000:=by omega
 have hT:0≤T∧T<c'.1:=Zy.1 ha.h1
 have eT:decide (0≤T)=true:=dT0 hT.1
 have lT:T.toNat<e.2.1.length:=by omega
 have hX:0≤X∧X<c'.1:=Zy.1 ha.h2
 have eX:decide (0≤X)=true:=dT0 hX.1
 have lX:X.toNat<e.2.1.length:=by omega
 have hY:0≤Y∧Y<c'.1:=Zy.1 ha.h3
 have eY:decide (0≤Y)=true:=dT0 hY.1
 have lY:Y.toNat<e.2.1.length:=by omega
 obtain ⟨x,gx⟩:=ZJ e.2.1 X (by omega)
 have vx:=he.v x (List.mem_append_left _ (List.mem_append_left _ (mG0 gx)))
 obtain ⟨y,gy⟩:=ZJ e.2.1 Y (by omega)
 have vy:=he.v y (List.mem_append_left _ (List.mem_append_left _ (mG0 gy)))
 have d1:=ZNU op x y vx.1 vy.1
 have d2:=ZSY op x y vx.1 vy.1
 generalize doI op x y=r at d1 d2
 obtain ⟨z,o,w⟩:=r
 simp only at d1 d2
 cases o<;>cases w<;>cases k:decide (z.1>z.2)
 all_goals
  apply exO
  ·simp only [F_4,gx,gy,ZnP,d1,k,List.nil_append,List.length_nil,Nat.zero_add,List.length_set,limc V0,limc G0,limc A0,cond_true,cond_false,Zc,Bool.not_true,Bool.not_false,eT,eX,eY,look lT]
   rfl
  ·(simp only [R_4,ZlQ,ZHG,gx,gy,ZtE,d2,k,Zw,YR e T z hT.1 (by omega) V0,eX,eY,show decide ((0:Int)<((0:Nat):Int))=false from rfl,List.nil_append,List.length_nil,Nat.zero_add,List.length_set,limc V0,limc G0,limc A0,cond_true,cond_false,Zc,Bool.not_true,Bool.not_false])<;>rfl
  ·refine ⟨⟨?_,?_,?_⟩,⟨?_,?_,?_⟩,?_,?_,?_⟩<;>simp only [List.length_set,List.length_nil,List.length_cons]<;>omega
theorem Z0K (u:U) (t n:Int) (e:E) (l:List En) (c:C) (T X Y G N op nx el:Int) (h0:0≤t) (hu:unitOK u) (hl:tabOK l) (hn:l.length≤1000) (he:envOK u t e) (hc:u.2.2.2[t.toNat]? = some c) (ha:actOK u c (7,T,X,Y,G,N,op,nx,el)):∃ o,bF u t n e l c (7,T,X,Y,G,N,op,nx,el)=some o∧bR u t n e l c (7,T,X,Y,G,N,op,nx,el)=some o∧HC o:=by
 obtain ⟨c',hc',hv⟩:=he.c
 obtain rfl:c'=c:=by rw [hc] at hc';exact (Option.some.inj hc').symm
 have cv:=(hu.ts c' (mG0 hc')).v
 have V0:e.2.1.length≤1000:=by omega
 have G0:e.2.2.1.length≤1000:=by rw [he.g];have:=hu.g;omega
 have A0:e.2.2.2.1.length≤1000:=by rw [he.a];have:=hu.a;omega
 have hE:=hl.e
 have hm:=he.must
 have hy:=he.may
 have hn':l.length<9223372036854775807:=by omega
 have hn2:l.length<1000000000000:=by omega
 have hT:0≤T∧T<c'.1:=Zy.1 ha.h1
 have eT:decide (0≤T)=true:=dT0 hT.1
 have lT:T.toNat<e.2.1.length:=by omega
 have hX:0≤X∧X<c'.1:=Zy.1 ha.h2
 have eX:decide (0≤X)=true:=dT0 hX.1
 have lX:X.toNat<e.2.1.length:=by omega
 obtain ⟨x,gx⟩:=ZJ e.2.1 X (by omega)
 have vx:=he.v x (List.mem_append_left _ (List.mem_append_left _ (mG0 gx)))
 have hG:0≤G∧G<(u.2.1.length:Int):=Zy.1 ha.h4
 have eG:decide (0≤G)=true:=dT0 hG.1
 have lG:G.toNat<e.2.2.2.1.length:=by rw [he.a];omega
 obtain ⟨gd,hgd⟩:=ZJ e.2.2.2.1 G (by rw [he.a];omega)
 obtain ⟨m,gm⟩:=ZJ u.2.1 G hG
 have vm:=hu.ars m (mG0 gm)
 have hr:IntKind.i64.wrap (m - 1)=m - 1:=ZjP (by omega) (by omega)
 have r0:Zd (0,m - 1)=false:=Z6 (by show (0:Int)≤m - 1;omega)
 have rB:isB (0,m - 1)=true:=by simp [isB,fitB];omega
 have q1:=Zg5 x (0,m - 1)
 have q2:=Zhu x (0,m - 1)
 have q3:=VF x (0,m - 1)
 have q4:=ZcP x (0,m - 1)
 rw [ZcO vx.2 r0] at q3
 have zB:=ZjC (y:=x) (p:=(0,m - 1)) vx.1 rB
 generalize mSpan x (0,m - 1)=z at q3 q4 zB
 have wx:=YR e X z hX.1 (by omega) V0
 have r1:=ZoK u t (e.1,e.2.1.set X.toNat z,e.2.2) l true G gd hG.1 hgd hm hE hn'
 have r2:=ZDt t (e.1,e.2.1.set X.toNat z,e.2.2) l true G gd hG.1 hgd hm hE hn'
 have lT2:T.toNat<(e.2.1.set X.toNat z).length:=by rw [List.length_set];exact lT
 have wz (v:I):Zjt (e.1,e.2.1.set X.toNat z,e.2.2) T v=some (e.1,(e.2.1.set X.toNat z).set T.toNat v,e.2.2):=YR (e.1,e.2.1.set X.toNat z,e.2.2) T v hT.1 (by show T<((e.2.1.set X.toNat z).length:Int);rw [List.length_set];omega) (by show (e.2.1.set X.toNat z).length≤1000;rw [List.length_set];exact V0)
 cases k1:leqB x (0,m - 1)<;>cases k2:decide (z.1>z.2)
 all_goals rw [k1] at q1 q2
 all_goals
  apply exO
  ·simp only [F_7,gm,gx,hr,Qp,q1,ZC,q3,k2,Qb,r1,List.nil_append,List.length_nil,Nat.zero_add,List.length_set,limc V0,limc G0,limc A0,cond_true,cond_false,Zc,Bool.not_true,Bool.not_false,eT,eX,eG,look lX,look lT2]
   rfl
  ·(simp only [R_7,gm,gx,hr,Jx,q2,ZX,q4,k2,Zw,wx,wz,Qd,r2,eX,eG,List.nil_append,List.length_nil,Nat.zero_add,List.length_set,limc V0,limc G0,limc A0,cond_true,cond_false,Zc,Bool.not_true,Bool.not_false])<;>rfl
  ·refine ⟨⟨?_,?_,?_⟩,⟨?_,?_,?_⟩,?_,?_,?_⟩<;>simp only [List.length_set,List.length_nil,List.length_cons,gmap,List.length_mapIdx]<;>omega
theorem Z0L (u:U) (t n:Int) (e:E) (l:List En) (c:C) (T X Y G N op nx el:Int) (h0:0≤t) (hu:unitOK u) (hl:tabOK l) (hn:l.length≤1000) (he:envOK u t e) (hc:u.2.2.2[t.toNat]? = some c) (ha:actOK u c (8,T,X,Y,G,N,op,nx,el)):∃ o,bF u t n e l c (8,T,X,Y,G,N,op,nx,el)=some o∧bR u t n e l c (8,T,X,Y,G,N,op,nx,el)=some o∧HC o:=by
 obtain ⟨c',hc',hv⟩:=he.c
 obtain rfl:c'=c:=by rw [hc] at hc';exact (Option.some.inj hc').symm
 have cv:=(hu.ts c' (mG0 hc')).v
 have V0:e.2.1.length≤1000:=by omega
 have G0:e.2.2.1.length≤1000:=by rw [he.g];have:=hu.g;omega
 have A0:e.2.2.2.1.length≤1000:=by rw [he.a];have:=hu.a;omega
 have hE:=hl.e
 have hm:=he.must
 have hy:=he.may
 have hn':l.length<9223372036854775807:=by omega
 have hn2:l.length<1000000000000:=by omega
 have hX:0≤X∧X<c'.1:=Zy.1 ha.h2
 have eX:decide (0≤X)=true:=dT0 hX.1
 have lX:X.toNat<e.2.1.length:=by omega
 have hY:0≤Y∧Y<c'.1:=Zy.1 ha.h3
 have eY:decide (0≤Y)=true:=dT0 hY.1
 have lY:Y.toNat<e.2.1.length:=by omega
 obtain ⟨x,gx⟩:=ZJ e.2.1 X (by omega)
 have vx:=he.v x (List.mem_append_left _ (List.mem_append_left _ (mG0 gx)))
 obtain ⟨y,gy⟩:=ZJ e.2.1 Y (by omega)
 have vy:=he.v y (List.mem_append_left _ (List.mem_append_left _ (mG0 gy)))
 have hG:0≤G∧G<(u.2.1.length:Int):=Zy.1 ha.h4
 have eG:decide (0≤G)=true:=dT0 hG.1
 have lG:G.toNat<e.2.2.2.1.length:=by rw [he.a];omega
 obtain ⟨gd,hgd⟩:=ZJ e.2.2.2.1 G (by rw [he.a];omega)
 obtain ⟨m,gm⟩:=ZJ u.2.1 G hG
 have vm:=hu.ars m (mG0 gm)
 have hr:IntKind.i64.wrap (m - 1)=m - 1:=ZjP (by omega) (by omega)
 have r0:Zd (0,m - 1)=false:=Z6 (by show (0:Int)≤m - 1;omega)
 have rB:isB (0,m - 1)=true:=by simp [isB,fitB];omega
 have q1:=Zg5 x (0,m - 1)
 have q2:=Zhu x (0,m - 1)
 have q3:=VF x (0,m - 1)
 have q4:=ZcP x (0,m - 1)
 rw [ZcO vx.2 r0] at q3
 have zB:=ZjC (y:=x) (p:=(0,m - 1)) vx.1 rB
 generalize mSpan x (0,m - 1)=z at q3 q4 zB
 have wx:=YR e X z hX.1 (by omega) V0
 obtain ⟨y',gy'⟩:=ZJ (e.2.1.set X.toNat z) Y (by rw [List.length_set];omega)
 cases k1:leqB x (0,m - 1)<;>cases k2:decide (z.1>z.2)
 all_goals
  rw [k1] at q1 q2
  have yB:decide (z.1>z.2)=false→isB y'=true:=fun h=>by
   rcases List.mem_or_eq_of_mem_set (mG0 gy') with h1 | h1
   ·exact (he.v y' (List.mem_append_left _ (List.mem_append_left _ h1))).1
   ·rw [h1];exact zB h
  have JE:(Zl gd y'=rJoin gd y')∨decide (z.1>z.2)=true:=by
   cases h:decide (z.1>z.2)
   ·exact .inl (Zav (yB h))
   ·exact .inr rfl
  rw [k2] at JE
  simp only [Bool.true_eq_false,Bool.false_eq_true,or_false,or_true] at JE
 all_goals
  apply exO
  ·simp only [F_8,gm,gx,gy,gy',hgd,hr,Qp,q1,ZC,q3,k2,ZM,Vo,JE,List.nil_append,List.length_nil,Nat.zero_add,List.length_set,limc V0,limc G0,limc A0,cond_true,cond_false,Zc,Bool.not_true,Bool.not_false,eY,eX,eG,look lX]
   rfl
  ·(simp only [R_8,gm,gx,gy,gy',hgd,hr,Jx,q2,ZX,q4,k2,Zw,wx,ZH,KK,eX,eY,eG,List.nil_append,List.length_nil,Nat.zero_add,List.length_set,limc V0,limc G0,limc A0,cond_true,cond_false,Zc,Bool.not_true,Bool.not_false])<;>rfl
  ·refine ⟨⟨?_,?_,?_⟩,⟨?_,?_,?_⟩,?_,?_,?_⟩<;>simp only [List.length_set,List.length_nil,List.length_cons,gmap,List.length_mapIdx]<;>omega
theorem ZZN (u:U) (t n:Int) (e:E) (l:List En) (c:C) (T X Y G N op nx el:Int) (h0:0≤t) (hu:unitOK u) (hl:tabOK l) (hn:l.length≤1000) (he:envOK u t e) (hc:u.2.2.2[t.toNat]? = some c) (ha:actOK u c (11,T,X,Y,G,N,op,nx,el)):∃ o,bF u t n e l c (11,T,X,Y,G,N,op,nx,el)=some o∧bR u t n e l c (11,T,X,Y,G,N,op,nx,el)=some o∧HC o:=by
 obtain ⟨c',hc',hv⟩:=he.c
 obtain rfl:c'=c:=by rw [hc] at hc';exact (Option.some.inj hc').symm
 have cv:=(hu.ts c' (mG0 hc')).v
 have V0:e.2.1.length≤1000:=by omega
 have G0:e.2.2.1.length≤1000:=by rw [he.g];have:=hu.g;omega
 have A0:e.2.2.2.1.length≤1000:=by rw [he.a];have:=hu.a;omega
 have hE:=hl.e
 have hm:=he.must
 have hy:=he.may
 have hn':l.length<9223372036854775807:=by omega
 have hn2:l.length<1000000000000:=by omega
 have hX:0≤X∧X<c'.1:=Zy.1 ha.h2
 have eX:decide (0≤X)=true:=dT0 hX.1
 have lX:X.toNat<e.2.1.length:=by omega
 have hY:0≤Y∧Y<c'.1:=Zy.1 ha.h3
 have eY:decide (0≤Y)=true:=dT0 hY.1
 have lY:Y.toNat<e.2.1.length:=by omega
 obtain ⟨x,gx⟩:=ZJ e.2.1 X (by omega)
 have vx:=he.v x (List.mem_append_left _ (List.mem_append_left _ (mG0 gx)))
 obtain ⟨y,gy⟩:=ZJ e.2.1 Y (by omega)
 have vy:=he.v y (List.mem_append_left _ (List.mem_append_left _ (mG0 gy)))
 obtain ⟨w,n1⟩:=ZH2 op
 have n2:ZHH op=some w:=n1
 have f1:=Zmz op x y vx.1 vy.1
 have f2:=ZAu op x y vx.1 vy.1
 have f3:=Zmz w x y vx.1 vy.1
 have f4:=ZAu w x y vx.1 vy.1
 have p1:=Zy7 op x y
 have p3:=Zy7 w x y
 generalize refI op x y=a at f1 f2 p1
 generalize refI w x y=b at f3 f4 p3
 have m1:=VF a.1 a.2
 have m2:=ZcP a.1 a.2
 have m3:=VF b.1 b.2
 have m4:=ZcP b.1 b.2
 rw [p1] at m1
 rw [p3] at m3
 generalize mSpan a.1 a.2=z at m1 m2
 generalize mSpan b.1 b.2=o at m3 m4
 have lY2 (v:I):Y.toNat<(e.2.1.set X.toNat v).length:=by rw [List.length_set];exact lY
 have w1 (v:I):=YR e X v hX.1 (by omega) V0
 have w2 (v v':I):Zjt (e.1,e.2.1.set X.toNat v,e.2.2) Y v'=some (e.1,(e.2.1.set X.toNat v).set Y.toNat v',e.2.2):=YR (e.1,e.2.1.set X.toNat v,e.2.2) Y v' hY.1 (by show Y<((e.2.1.set X.toNat v).length:Int);rw [List.length_set];omega) (by show (e.2.1.set X.toNat v).length≤1000;rw [List.length_set];exact V0)
 cases kXY:X==Y
 ·cases k1:decide (a.1.1>a.1.2)<;>cases k2:decide (a.2.1>a.2.2)<;>cases k3:decide (b.1.1>b.1.2)<;>cases k4:decide (b.2.1>b.2.2)
  all_goals
   apply exO
   ·simp only [ZRe,gx,gy,ZW,f1,f3,QR,n1,ZC,m1,m3,kXY,ZjQ,Zml,List.nil_append,List.length_nil,Nat.zero_add,List.length_set,limc V0,limc G0,limc A0,cond_true,cond_false,Zc,Bool.not_true,Bool.not_false,eX,eY,look lX,look (lY2 _),k1,k2,k3,k4]
    rfl
   ·(simp only [ZWS,ZaR,Zsc,gx,gy,Zh2,f2,f4,ZjS,n2,ZX,m2,m4,kXY,Zw,w1,w2,eX,eY,List.nil_append,List.length_nil,Nat.zero_add,List.length_set,limc V0,limc G0,limc A0,cond_true,cond_false,Zc,Bool.not_true,Bool.not_false,k1,k2,k3,k4])<;>rfl
   ·refine ⟨⟨?_,?_,?_⟩,⟨?_,?_,?_⟩,?_,?_,?_⟩<;>simp only [List.length_set,List.length_nil,List.length_cons]<;>omega
 ·cases k1:decide (z.1>z.2)<;>cases k3:decide (o.1>o.2)
  all_goals
   apply exO
   ·simp only [ZRe,gx,gy,ZW,f1,f3,QR,n1,ZC,m1,m3,kXY,ZjQ,Zml,List.nil_append,List.length_nil,Nat.zero_add,List.length_set,limc V0,limc G0,limc A0,cond_true,cond_false,Zc,Bool.not_true,Bool.not_false,eX,eY,look lX,look (lY2 _),k1,k3]
    rfl
   ·(simp only [ZWS,ZaR,Zsc,gx,gy,Zh2,f2,f4,ZjS,n2,ZX,m2,m4,kXY,Zw,w1,w2,eX,eY,List.nil_append,List.length_nil,Nat.zero_add,List.length_set,limc V0,limc G0,limc A0,cond_true,cond_false,Zc,Bool.not_true,Bool.not_false,k1,k3])<;>rfl
   ·refine ⟨⟨?_,?_,?_⟩,⟨?_,?_,?_⟩,?_,?_,?_⟩<;>simp only [List.length_set,List.length_nil,List.length_cons]<;>omega
end
end Go.Proofs.YtbdcblpjemmipaaGreat.Ex
