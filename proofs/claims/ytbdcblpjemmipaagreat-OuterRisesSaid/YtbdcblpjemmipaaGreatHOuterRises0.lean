/- A part of the proofs of what is known of threads: HOuterRises0. -/
import Derived.Test.YtbdcblpjemmipaaGreatHA
import Derived.Test.YtbdcblpjemmipaaGreatHC
import Derived.Test.YtbdcblpjemmipaaGreatHF
import Derived.Test.YtbdcblpjemmipaaGreatHE
import Derived.Test.YtbdcblpjemmipaaGreatHG
import Derived.Test.YtbdcblpjemmipaaGreatHH
import Derived.Test.YtbdcblpjemmipaaGreatHI
namespace Go.Proofs.YtbdcblpjemmipaaGreat.Ex
open Go.Proofs
set_option maxRecDepth 100000
set_option maxHeartbeats 4000000
set_option linter.unusedVariables false
set_option linter.unusedSimpArgs false
set_option linter.unusedSectionVars false
noncomputable section
section
theorem ZHI (x y:I):leqB x (Zg x y)=true:=by
 simp only [leqB,Zg,Zd,nn,mn,mx,Bool.or_eq_true,Bool.and_eq_true,decide_eq_true_eq]
 (repeat' split)<;>simp_all<;>(try (repeat' split))<;>omega
section
variable {a b c d:Int} (hx:a≤b) (hy:c≤d)
include hx hy
omit hx hy in
end
theorem KH {x y z:I} (h:leqB x y=true) (k:leqB y z=true):leqB x z=true:=by
 rw [QE] at *;unfold sub at *;omega
theorem ZXa (x y:I):leqB y (Zg x y)=true:=by rw [Zfb];exact ZHI y x
end
abbrev tRR:Ty:=(.st (.pair (.sl tR) (.pair (.sl tEn) (.pair (.int .i64) .bool))))
abbrev RRe:=List Re×List En×Int×Bool
abbrev Hw:=((List En)×(List En)×Int)
abbrev Ju:=Unit
abbrev Jv:=Bool
def Zab (s0 s1:List En) (s5:Int):Option (((List En)×(List En)×Int)⊕(Unit⊕Bool)):=bif decide (s5<(s0.length:Int)) then bif decide (0≤s5) then Za s0[s5.toNat]? none fun d5=>bif decide (0≤s5) then Za s1[s5.toNat]? none fun d6=>bif !(d5.1==d6.1&&(d5.2.1==d6.2.1&&(d5.2.2.1==d6.2.2.1&&(d5.2.2.2.1==d6.2.2.2.1&&(d5.2.2.2.2.1==d6.2.2.2.2.1&&d5.2.2.2.2.2==d6.2.2.2.2.2))))) then some (.inr (.inr false)) else some (.inl (s0,s1,IntKind.i64.wrap (s5+1))) else none else none else some (.inr (.inl PUnit.unit))
def Zrc:Hw→Option (Hw⊕(Ju⊕Jv)):=fun (a,b,c)=>Zab a b c
def ZfO (x:Hw):Option (Ju⊕Jv):=Zh Zrc Zl x
def Zm0 (a0 a1:List En):Option Bool:=bif (a0.length:Int) !=(a1.length:Int) then some false else Za (ZfO (a0,a1,0)) none fun d4=>Sum.elim (fun e5=>some true) (fun e5=>some e5) d4
def WI (x:((List En)×((List En)×Unit))):Option Bool:=Zm0 x.1 x.2.1
def WV (s1 s0:List En) (i:Nat)  (d:En):Option (Unit⊕(Ju⊕Jv)):=
 Za s1[i]? (none) fun d6=>
  bif !(d.1==d6.1&&(d.2.1==d6.2.1&&(d.2.2.1==d6.2.2.1&&(d.2.2.2.1==d6.2.2.2.1&&(d.2.2.2.2.1==d6.2.2.2.2.1&&d.2.2.2.2.2==d6.2.2.2.2.2))))) then
  some (.inr (.inr false))
 else some (.inl ())
def Zqp (s1 s0:List En):Option (Ju⊕Jv):=
 some (.inl PUnit.unit)
abbrev ZDT (s1 s0:List En) (i:Nat) (s:Unit):Hw:=(s0,s1,(i:Int))
def ZkO (s1 s0:List En) (s:Unit):Option (Ju⊕Jv):=Zp (fun i s d=>WV s1 s0 i  d) (fun s=>Zqp s1 s0 ) 0 s0 s
theorem ZqW (s1 s0:List En) (s:Unit) (hl:s0.length<9223372036854775807):ZfO (s0,s1,0)=ZkO s1 s0 s:=by
 unfold ZfO ZkO
 refine Zs s0 (ZDT s1 s0) _ _ ?_ ?_ s (by unfold Zl;omega)
 ·intro i s d hi hd
  have e1:decide ((i:Int)<(s0.length:Int))=true:=dT0 (by omega)
  have e2:decide (0≤(i:Int))=true:=dT0 (by omega)
  have e3:Int.toNat (i:Int)=i:=tN0 i
  have e4:=Zq hi (Nat.le_of_lt hl)
  show Zab (s0) (s1) ((i:Int))=upd _ (WV s1 s0 i  d)
  unfold Zab WV
  simp only [e1,e2,e3,e4,hd,cond_true,cond_false,Zb,ZC,ZF,ZD,ZI,ZJ,ZE]
 ·intro s
  have e1:decide ((s0.length:Int)<(s0.length:Int))=false:=dF0 (by omega)
  show Zab (s0) (s1) ((s0.length:Int))=_
  unfold Zab Zqp
  rw [e1]
  rfl
theorem ZSW (x y:I):leqB x (Zg x y)=true:=by
 unfold Zg
 cases a:Zd x<;>cases b:Zd y<;>simp only [Bool.false_eq_true,if_true,if_false]<;>rw [QE]<;>unfold sub <;>
  simp only [Zd,decide_eq_true_eq,decide_eq_false_iff_not] at a b<;>(try simp only [mx,mn,nn])<;>first | omega | ((repeat' split)<;>omega)
theorem ZLu (a:List I):leR a a:=⟨rfl,fun i x y hx hy=>by rw [hx] at hy;cases hy;exact ZdP x⟩
theorem Z54 {a b:En} (h:ky a=ky b) (k:vl a=vl b):a=b:=by
 obtain ⟨a1,a2,a3,a4,a5⟩:=a
 obtain ⟨b1,b2,b3,b4,b5⟩:=b
 simp only [ky,vl,Prod.mk.injEq] at h k
 obtain ⟨rfl,rfl,rfl,rfl⟩:=h
 subst k;rfl
theorem ZsG {a:Ky}:¬ ltK a a:=by unfold ltK;omega
def tget (l:List En) (k:Ky):Option I:=(l.find? fun e=>ky e==k).map vl
theorem JT (d:En) (r:List En) (k:Ky):tget (d::r) k=if ky d=k then some (vl d) else tget r k:=by
 unfold tget
 rw [List.find?_cons]
 by_cases h:ky d=k
 ·rw [if_pos h,show (ky d==k)=true from beq_iff_eq.2 h];rfl
 ·rw [if_neg h,show (ky d==k)=false from beq_eq_false_iff_ne.2 h]
theorem Z2b (k:Ky):tget [] k=none:=rfl
theorem ZIQ {l:List En} {k:Ky} (h:∀ d∈l,ky d≠k):tget l k=none:=by
 unfold tget
 rw [List.find?_eq_none.2 fun d hd=>by rw [beq_iff_eq];exact h d hd];rfl
theorem ZsU {l:List En} {k:Ky} {v:I} (h:tget l k=some v):∃ d∈l,ky d=k∧vl d=v:=by
 unfold tget at h
 obtain ⟨d,h1,h2⟩:=Option.map_eq_some_iff.1 h
 exact ⟨d,List.mem_of_find?_eq_some h1,beq_iff_eq.1 (List.find?_some (p:=fun e=>ky e==k) h1),h2⟩
theorem ZLA {l:List En} (hs:srt l) {d:En} (hd:d∈l):tget l (ky d)=some (vl d):=by
 induction l with
 | nil=>cases hd
 | cons x r ih=>
  rw [JT]
  have h:=List.pairwise_cons.1 hs
  rcases List.mem_cons.1 hd with rfl | hd
  ·rw [if_pos rfl]
  ·rw [if_neg (fun e=>ZsG (e ▸ h.1 d hd)),ih h.2 hd]
theorem Zwu:∀ {a b:List En},srt a→srt b→(∀ k,tget a k=tget b k)→a=b
 | [],[],_,_,_=>rfl
 | [],y::s,_,hb,h=>by have:=h (ky y);rw [JT,if_pos rfl] at this;cases this
 | x::r,[],ha,_,h=>by have:=h (ky x);rw [JT,if_pos rfl] at this;cases this
 | x::r,y::s,ha,hb,h=>by
  have ka:=List.pairwise_cons.1 ha
  have kb:=List.pairwise_cons.1 hb
  have hx:=h (ky x)
  have hy:=h (ky y)
  rw [JT,if_pos rfl,JT] at hx
  rw [JT,JT,if_pos rfl] at hy
  have hk:ky x=ky y:=by
   by_cases e:ky x=ky y
   ·exact e
   ·exfalso
    rw [if_neg (Ne.symm e)] at hx
    rw [if_neg e] at hy
    obtain ⟨d,hd,h1,_⟩:=ZsU hx.symm
    obtain ⟨c,hc,h2,_⟩:=ZsU hy
    have k1:=kb.1 d hd
    have k2:=ka.1 c hc
    rw [h1] at k1;rw [h2] at k2
    exact ZsG (ZtW k1 k2)
  rw [if_pos hk.symm] at hx
  have exy:x=y:=Z54 hk (Option.some.inj hx)
  subst exy
  rw [Zwu ka.2 kb.2 fun k=>?_]
  by_cases e:ky x=k
  ·subst e
   rw [ZIQ fun d hd q=>ZsG (q ▸ ka.1 d hd),ZIQ fun d hd q=>ZsG (q ▸ kb.1 d hd)]
  ·have:=h k
   rwa [JT,JT,if_neg e,if_neg e] at this
def optV (f:I→I→I) (o:Option I) (v:I):I:=match o with | some u=>f u v | none=>v
theorem ZXs {f:I→I→I} {e:En}:∀ {l:List En},srt l→∀ k,tget (pinT f e l) k=if ky e=k then some (optV f (tget l k) (vl e)) else tget l k
 | [],_,k=>by unfold pinT;rw [JT,Z2b];rfl
 | d::r,hs,k=>by
  have h:=List.pairwise_cons.1 hs
  unfold pinT
  split
  ·rename_i hc
   rw [JT,ZXs h.2,JT]
   by_cases hd:ky d=k
   ·rw [if_pos hd,if_pos hd,if_neg (fun e2=>ZsG (by rw [ZtZ,hd,e2] at hc;exact hc))]
   ·rw [if_neg hd,if_neg hd]
  ·rename_i hc
   split
   ·rename_i hz
    rw [ZtY] at hz
    rw [JT,JT,ZZU,hz]
    by_cases he:ky e=k
    ·rw [if_pos he,if_pos he,if_pos he];rfl
    ·rw [if_neg he,if_neg he,if_neg he]
   ·rename_i hz
    rw [ZtZ] at hc
    rw [ZtY] at hz
    have hed:=ZXd hc hz
    rw [JT]
    by_cases he:ky e=k
    ·rw [if_pos he,if_pos he,ZIQ]
     ·rfl
     ·intro x hx q
      rcases List.mem_cons.1 hx with rfl | hx
      ·exact hz (q.trans he.symm)
      ·exact ZsG (by have:=ZtW hed (h.1 x hx);rwa [q,he] at this)
    ·rw [if_neg he,if_neg he]
def ZQG:List Sh:=[.dat (.sl tEn),.dat (.sl tEn),.dat (.sl (.int .i64))]
def Zvg:Nat→List Nat:=fun c=>bif c.beq 0 then [5,7,12,13,14] else [7]
def ZIN:List Con:=[⟨106,Zih,ZoH⟩,⟨153,Km,YC⟩,⟨154,ZwP,ZIw⟩,⟨155,ZgA,ZnW⟩,⟨109,ZoU,ZuP⟩]
def Zh8:StS:=⟨[(5,.ptr 0 0),(7,.row 1),(12,.sl tEn),(13,.int .i64),(14,.int .i64)],[(0,.box [.sl (.int .i64)]),(1,.row tEn)],2⟩
def ZaR:StS:=⟨[(7,.row 0)],[(0,.row tEn)],1⟩
abbrev VL:=((List En)×Int×Int×(List Int)×(List En))
def ZFU:StD Zh8→VL:=fun ((_,_,a,b,c,_),((d,_),e,_))=>(a,b,c,d,e)
def ZG0:VL→StD Zh8:=fun (a,b,c,d,e)=>(((),(),a,b,c,()),((d,()),e,()))
abbrev Kd:=(List En)
def ZWZ (d:StD ZaR):Kd:=(d.2.1)
def Zkd (x:Kd):StD ZaR:=(((),()),(x,()))
def ZbP (s12:List En) (s13 s14:Int) (b0:List Int) (b1:List En):Option (((List En)×Int×Int×(List Int)×(List En))⊕(List En)):=bif decide (s14<s13) then bif decide (0≤s14) then Za s12[s14.toNat]? none fun d7=>bif decide (d7.2.2.2.2.1>d7.2.2.2.2.2) then some (.inl (s12,s13,IntKind.i64.wrap (s14+1),b0,b1)) else Za (Zhc (b1,d7,())) none fun d8=>bif !d8.2.1 then bif decide (0≤d8.1∧d8.1≤(b1.length:Int)∧(b1.length+2)*48≤lim) then some (.inl (s12,s13,IntKind.i64.wrap (s14+1),b0,List.take (Int.toNat d8.1) b1++d7::List.drop (Int.toNat d8.1) b1)) else none else bif decide (0≤d8.1) then Za b1[Int.toNat d8.1]? none fun d9=>Za b1[Int.toNat d8.1]? none fun d10=>Za (Ze8 (d10.2.2.2.2,d7.2.2.2.2,b0,())) none fun d11=>bif decide (0≤d8.1) then Za b1[Int.toNat d8.1]? none fun d12=>Za b1[Int.toNat d8.1]? none fun d13=>some (.inl (s12,s13,IntKind.i64.wrap (s14+1),b0,b1.set (Int.toNat d8.1) (d13.1,d13.2.1,d13.2.2.1,d13.2.2.2.1,d11))) else none else none else none else some (.inr b1)
def Zsb:VL→Option (VL⊕Kd):=fun (a,b,c,d,e)=>ZbP a b c d e
def Zhr (x:VL):Option Kd:=Zh Zsb Zl x
def ZxF:Nat→Tm→Prog (Nat×Tm):=(varP 0 (fun T h=>(rdS Zh8 T h).map ZFU) Zhr (altE 2 ZaR Zkd) (fun _ _=>.fail))
def ZJJ:Lpc:=⟨74,0,24,(fun base T=>.norm base (Zvg 0) T (ZxF base)),by kernel_rfl,by kernel_rfl,(loopU ZIN [] 40 1048576 8 (keep:=Zvg) (q:=ZxF) (by kernel_rfl) (Zv (s:=Zh8) (un:=ZG0) (by rfl) (fun _=>rfl) (Zn (s:=ZaR) (un:=Zkd) (flat:=ZWZ) (by rfl) (fun _=>rfl)) (step:=Zsb) (fun _=>by kernel_rfl) (fun _ _ e=>⟨_,e⟩) (Zm 2 ZaR Zkd) (ZB.fail _ _)))⟩
def ZzR (a0 a1:List En) (a2:List Int):Option (List En):=bif decide (((List.length (α:=I) [])+a0.length+1)*48≤lim) then Za (Zhr (a1,(a1.length:Int),0,a2,[]++a0)) none fun d5=>some d5 else none
def Zs4 (x:((List En)×((List En)×((List Int)×Unit)))):Option (List En):=ZzR x.1 x.2.1 x.2.2.1
def ZEU:=conR false ZQG tEn Zs4
theorem ZQ2:Zf Tryz.prog 74 ZEU:=ZhA (calU ZIN [ZJJ] 40 1048576 8 74) false (by rfl) (fun x r e=>(Zpp _ _ _ _ _ _ _).trans ((show _=Zs4 x by kernel_rfl).trans e)) (.inr (by rfl))
def ZbA (b0:List Int) (s12:List En) (i:Nat) (b1:List En) (d:En):Option ((List En)⊕Kd):=
 bif decide (d.2.2.2.2.1>d.2.2.2.2.2) then
  some (.inl (b1))
 else Za (Zhc (b1,d,())) (none) fun d8=>
  bif !d8.2.1 then
  bif decide (0≤d8.1∧d8.1≤(↑b1.length:Int)∧(b1.length+2)*48≤lim) then
  some (.inl (List.take (Int.toNat d8.1) b1++d::List.drop (Int.toNat d8.1) b1))
 else none
 else bif decide (0≤d8.1) then
  Za b1[Int.toNat d8.1]? (none) fun d9=>
  Za b1[Int.toNat d8.1]? (none) fun d10=>
  Za (Ze8 (d10.2.2.2.2,d.2.2.2.2,b0,())) (none) fun d11=>
  bif decide (0≤d8.1) then
  Za b1[Int.toNat d8.1]? (none) fun d12=>
  Za b1[Int.toNat d8.1]? (none) fun d13=>
  some (.inl (b1.set (Int.toNat d8.1) (d13.1,d13.2.1,d13.2.2.1,d13.2.2.2.1,d11)))
 else none
 else none
def ZrG (b0:List Int) (s12 b1:List En):Option Kd:=
 some b1
abbrev ZGv (b0:List Int) (s12:List En) (i:Nat) (s:List En):VL:=(s12,(s12.length:Int),(i:Int),b0,s)
def Zl8 (b0:List Int) (s12 s:List En):Option Kd:=Zp (fun i s d=>ZbA b0 s12 i s d) (fun s=>ZrG b0 s12 s) 0 s12 s
theorem ZGi (b0:List Int) (s12 s:List En) (hl:s12.length<9223372036854775807):Zhr (s12,(s12.length:Int),0,b0,s)=Zl8 b0 s12 s:=by
 unfold Zhr Zl8
 refine Zs s12 (ZGv b0 s12) _ _ ?_ ?_ s (by unfold Zl;omega)
 ·intro i s d hi hd
  have e1:decide ((i:Int)<(s12.length:Int))=true:=dT0 (by omega)
  have e2:decide (0≤(i:Int))=true:=dT0 (by omega)
  have e3:Int.toNat (i:Int)=i:=tN0 i
  have e4:=Zq hi (Nat.le_of_lt hl)
  show ZbP (s12) ((s12.length:Int)) ((i:Int)) (b0) (s)=upd _ (ZbA b0 s12 i s d)
  unfold ZbP ZbA
  simp only [e1,e2,e3,e4,hd,cond_true,cond_false,Zb,ZC,ZF,ZD,ZI,ZJ,ZE]
 ·intro s
  have e1:decide ((s12.length:Int)<(s12.length:Int))=false:=dF0 (by omega)
  show ZbP (s12) ((s12.length:Int)) ((s12.length:Int)) (b0) (s)=_
  unfold ZbP ZrG
  rw [e1]
  rfl
def ZR3:List Sh:=[.dat (.sl tEn),.dat (.sl tEn)]
def ZV5:List Con:=[⟨81,Zs8,ZAa⟩]
def ZC5 (a0 a1:List En):Option (List En):=Za (Zhb (a0,a1,())) none fun d3=>some d3
def ZvW (x:((List En)×((List En)×Unit))):Option (List En):=ZC5 x.1 x.2.1
def ZHi:=conR false ZR3 tEn ZvW
theorem ZTL:Zf Tryz.prog 72 ZHi:=ZhA (calU ZV5 [] 40 1048576 8 72) false (by rfl) (fun x r e=>(Zpp _ _ _ _ _ _ _).trans ((show _=ZvW x by kernel_rfl).trans e)) (.inr (by rfl))
def Zzr:List Sh:=[.dat (.sl tEn),.dat (.sl tEn)]
def Zln:Nat→List Nat:=fun c=>bif c.beq 0 then [0,1,12,13] else [4]
def ZpF:List Con:=[]
def Hm:StS:=⟨[(0,.sl tEn),(1,.sl tEn),(12,.int .i64),(13,.int .i64)],[],0⟩
def Q5:StS:=⟨[(4,.undef)],[],0⟩
def Q6:StS:=⟨[(4,.bool)],[],0⟩
abbrev QC:=((List En)×(List En)×Int×Int)
def Zsu:StD Hm→QC:=fun ((a,b,c,d,_),_)=>(a,b,c,d)
def ZsW:QC→StD Hm:=fun (a,b,c,d)=>((a,b,c,d,()),())
abbrev Z1:=Unit
def ZMj (d:StD Q5):Z1:=()
def Zap (x:Z1):StD Q5:=(((),()),())
abbrev Z2:=Bool
def ZMk (d:StD Q6):Z2:=(d.1.1)
def Zaq (x:Z2):StD Q6:=((x,()),())
def JI (s0 s1:List En) (s12 s13:Int):Option (((List En)×(List En)×Int×Int)⊕(Unit⊕Bool)):=bif decide (s13<s12) then bif decide (0≤s13) then Za s0[s13.toNat]? none fun d6=>bif decide (0≤s13) then Za s1[s13.toNat]? none fun d7=>bif !(d6.1==d7.1&&(d6.2.1==d7.2.1&&(d6.2.2.1==d7.2.2.1&&(d6.2.2.2.1==d7.2.2.2.1&&(d6.2.2.2.2.1==d7.2.2.2.2.1&&d6.2.2.2.2.2==d7.2.2.2.2.2))))) then some (.inr (.inr false)) else some (.inl (s0,s1,s12,IntKind.i64.wrap (s13+1))) else none else none else some (.inr (.inl PUnit.unit))
def ZjL:QC→Option (QC⊕(Z1⊕Z2)):=fun (a,b,c,d)=>JI a b c d
def Hi (x:QC):Option (Z1⊕Z2):=Zh ZjL Zl x
def Zmz:Nat→Tm→Prog (Nat×Tm):=(varP 0 (fun T h=>(rdS Hm T h).map Zsu) Hi (fun y=>.alt y (altE 2 Q5 Zap) (altE 1 Q6 Zaq)) (fun _ _=>.fail))
def ZuJ:Lpc:=⟨75,0,26,(fun base T=>.norm base (Zln 0) T (Zmz base)),by kernel_rfl,by kernel_rfl,(loopU ZpF [] 40 1048576 8 (keep:=Zln) (q:=Zmz) (by kernel_rfl) (Zv (s:=Hm) (un:=ZsW) (by rfl) (fun _=>rfl) (ZW (Zn (s:=Q5) (un:=Zap) (flat:=ZMj) (by rfl) (fun _=>rfl)) (Zn (s:=Q6) (un:=Zaq) (flat:=ZMk) (by rfl) (fun _=>rfl))) (step:=ZjL) (fun _=>by kernel_rfl) (fun _ _ e=>⟨_,e⟩) (ZV (Zm 2 Q5 Zap) (Zm 1 Q6 Zaq)) (ZB.fail _ _)))⟩
def ZkF (a0 a1:List En):Option Bool:=bif (a0.length:Int) !=(a1.length:Int) then some false else Za (Hi (a0,a1,(a0.length:Int),0)) none fun d4=>Sum.elim (fun e5=>some true) (fun e5=>some e5) d4
def Zd8 (x:((List En)×((List En)×Unit))):Option Bool:=ZkF x.1 x.2.1
def Zox:=conP true Zzr (.dat .bool) Zd8
theorem Zz9:Zf Tryz.prog 75 Zox:=Ze (calU ZpF [ZuJ] 40 1048576 8 75) true (by rfl) (by rfl) (fun x r e=>(Zk _ _ _ _ _ _ _).trans ((show _=Zd8 x by kernel_rfl).trans e)) (.inl rfl)
def ZR4:List Sh:=[.dat (.sl tEn),.dat (.sl tEn)]
def ZV6:List Con:=[⟨75,Zox,Zz9⟩]
def ZC6 (a0 a1:List En):Option Bool:=Za (Zd8 (a0,a1,())) none fun d3=>some d3
def Zp6 (x:((List En)×((List En)×Unit))):Option Bool:=ZC6 x.1 x.2.1
def ZHj:=conP false ZR4 (.dat .bool) Zp6
theorem ZTM:Zf Tryz.prog 45 ZHj:=Ze (calU ZV6 [] 40 1048576 8 45) false (by rfl) (by rfl) (fun x r e=>(Zk _ _ _ _ _ _ _).trans ((show _=Zp6 x by kernel_rfl).trans e)) (.inr fun _=>rfl)
def YW (s1 s0:List En) (i:Nat)  (d:En):Option (Unit⊕(Z1⊕Z2)):=
 Za s1[i]? (none) fun d7=>
  bif !(d.1==d7.1&&(d.2.1==d7.2.1&&(d.2.2.1==d7.2.2.1&&(d.2.2.2.1==d7.2.2.2.1&&(d.2.2.2.2.1==d7.2.2.2.2.1&&d.2.2.2.2.2==d7.2.2.2.2.2))))) then
  some (.inr (.inr false))
 else some (.inl ())
def Zjt (s1 s0:List En):Option (Z1⊕Z2):=
 some (.inl PUnit.unit)
abbrev ZsP (s1 s0:List En) (i:Nat) (s:Unit):QC:=(s0,s1,(s0.length:Int),(i:Int))
def ZjH (s1 s0:List En) (s:Unit):Option (Z1⊕Z2):=Zp (fun i s d=>YW s1 s0 i  d) (fun s=>Zjt s1 s0 ) 0 s0 s
theorem ZsN (s1 s0:List En) (s:Unit) (hl:s0.length<9223372036854775807):Hi (s0,s1,(s0.length:Int),0)=ZjH s1 s0 s:=by
 unfold Hi ZjH
 refine Zs s0 (ZsP s1 s0) _ _ ?_ ?_ s (by unfold Zl;omega)
 ·intro i s d hi hd
  have e1:decide ((i:Int)<(s0.length:Int))=true:=dT0 (by omega)
  have e2:decide (0≤(i:Int))=true:=dT0 (by omega)
  have e3:Int.toNat (i:Int)=i:=tN0 i
  have e4:=Zq hi (Nat.le_of_lt hl)
  show JI (s0) (s1) ((s0.length:Int)) ((i:Int))=upd _ (YW s1 s0 i  d)
  unfold JI YW
  simp only [e1,e2,e3,e4,hd,cond_true,cond_false,Zb,ZC,ZF,ZD,ZI,ZJ,ZE]
 ·intro s
  have e1:decide ((s0.length:Int)<(s0.length:Int))=false:=dF0 (by omega)
  show JI (s0) (s1) ((s0.length:Int)) ((s0.length:Int))=_
  unfold JI Zjt
  rw [e1]
  rfl
abbrev WP:=((List En)×(List En)×(List Int)×Int×(List En))
abbrev Zci:=(List En)
def K7 (s0 s1:List En) (s2:List Int) (s8:Int) (b0:List En):Option (((List En)×(List En)×(List Int)×Int×(List En))⊕(List En)):=bif decide (s8<(b0.length:Int)) then bif decide (0≤s8) then Za b0[s8.toNat]? none fun d7=>Za b0[s8.toNat]? none fun d8=>Za (Je (s0,d8,())) none fun d9=>bif decide (0≤s8) then Za b0[s8.toNat]? none fun d10=>Za b0[s8.toNat]? none fun d11=>Za (Je (s1,d11,())) none fun d12=>bif d9.2.1 then bif d12.2.1 then bif decide (0≤d9.1) then Za s0[Int.toNat d9.1]? none fun d13=>bif decide (0≤d12.1) then Za s1[Int.toNat d12.1]? none fun d14=>Za (Zfq (d13.2.2.2.2,d14.2.2.2.2,s2,())) none fun d15=>bif decide (0≤s8) then Za b0[s8.toNat]? none fun d16=>Za b0[s8.toNat]? none fun d17=>some (.inl (s0,s1,s2,IntKind.i64.wrap (s8+1),b0.set s8.toNat (d17.1,d17.2.1,d17.2.2.1,d17.2.2.2.1,d15))) else none else none else none else some (.inl (s0,s1,s2,IntKind.i64.wrap (s8+1),b0)) else some (.inl (s0,s1,s2,IntKind.i64.wrap (s8+1),b0)) else none else none else some (.inr b0)
def ZjK:WP→Option (WP⊕Zci):=fun (a,b,c,d,e)=>K7 a b c d e
def Zkt (x:WP):Option Zci:=Zh ZjK Zl x
def ZoZ (a0 a1:List En) (a2:List Int):Option (List En):=Za (Kx (a0,a1,())) none fun d5=>Za (Zkt (a0,a1,a2,0,d5)) none fun d6=>some d6
def ZoQ (x:((List En)×((List En)×((List Int)×Unit)))):Option (List En):=ZoZ x.1 x.2.1 x.2.2.1
theorem ZYr (a b:List En) (hs:srt a) (hn:a.length+b.length≤1000000000):ZC5 a b=some (addT Zg a b):=by
 unfold ZC5 Zhb
 simp only [ZIe a b hs hn,Zb]
theorem Z2l (st:List Int) (hst:st.length<9223372036854775807) (L:List En) (j:Nat) (s:List En) (d:En) (hs:srt s) (hn:s.length≤1000000000):ZbA st L j s d=some (.inl (stpT (widF st) s d)):=by
 unfold ZbA stpT
 rw [show decide (d.2.2.2.2.1>d.2.2.2.2.2)=Zd (vl d) from rfl]
 cases hE:Zd (vl d)
 case true=>rfl
 simp only [cond_false,Zhc,ZMJ s d hs (by omega),Zb,Bool.false_eq_true,if_false]
 cases hf:fndT d s
 ·simp only [Bool.not_false,cond_true,ZW7 hn (ZIj d s),tN0]
  rw [ZI9 _ _ _ hf]
 ·obtain ⟨x,hx,hk⟩:=Ztv d s hf
  simp only [Bool.not_true,cond_false,cond_true,dT0 (show (0:Int)≤(posT d s:Int) by omega),tN0,hx,Zb,Ze8,ZKw _ _ _ hst]
  rw [ZJa _ _ _ x hf hx]
  rfl
theorem ZVC (l es:List En) (st:List Int) (hst:st.length<9223372036854775807) (hs:srt l) (hn:l.length+es.length≤1000000000):ZzR l es st=some (addT (widF st) l es):=by
 unfold ZzR
 simp only [List.nil_append,List.length_nil,Nat.zero_add]
 rw [show decide ((l.length+1)*48≤lim)=true from dT0 (by unfold lim;omega),ZGi st es l (by omega)]
 unfold Zl8
 rw [ZhF (g:=stpT (widF st)) (fun s r=>srt s∧s.length+r.length≤1000000000) (fun j s d r h=>⟨Z2l st hst es j s d h.1 (by have:=h.2;rw [List.length_cons] at this;omega),ZD9 h.1,by
  have:=h.2;have:=ZD8 (widF st) s d;rw [List.length_cons] at *;omega⟩) es 0 l ⟨hs,hn⟩]
 rfl
def eqE (d e:En):Bool:=d.1==e.1&&(d.2.1==e.2.1&&(d.2.2.1==e.2.2.1&&(d.2.2.2.1==e.2.2.2.1&&(d.2.2.2.2.1==e.2.2.2.2.1&&d.2.2.2.2.2==e.2.2.2.2.2))))
theorem ZWq {d e:En}:eqE d e=true↔d=e:=by
 obtain ⟨d1,d2,d3,d4,d5,d6⟩:=d
 obtain ⟨e1,e2,e3,e4,e5,e6⟩:=e
 simp only [eqE,Bool.and_eq_true,beq_iff_eq,Prod.mk.injEq]
theorem ZXC {f:Nat→Unit→En→Option (Unit⊕(Unit⊕Bool))} {b:List En} (h:∀ j d,f j () d=Za b[j]? none fun e=>bif !(eqE d e) then some (.inr (.inr false)) else some (.inl ())) :
  ∀ (r:List En) (j:Nat),j+r.length=b.length→Zp f (fun _=>some (.inl ())) j r ()=bif decide (r=b.drop j) then some (.inl ()) else some (.inr false)
 | [],j,hj=>by
  rw [List.drop_eq_nil_of_le (by simp only [List.length_nil] at hj;omega)];rfl
 | d::r,j,hj=>by
  simp only [List.length_cons] at hj
  have hlt:j<b.length:=by omega
  have hd:=h j d
  rw [List.getElem?_eq_getElem hlt] at hd
  simp only [Zb] at hd
  rw [List.drop_eq_getElem_cons hlt]
  generalize b[j]=x at hd
  cases he:eqE d x
  ·rw [he] at hd
   have:¬ (d::r=x::b.drop (j+1)):=fun q=>by
    have:=ZWq.2 (List.cons.inj q).1
    rw [he] at this;cases this
   rw [dF0 this,Zp,hd];rfl
  ·rw [he] at hd
   obtain rfl:=ZWq.1 he
   rw [Qq hd,ZXC h r (j+1) (by omega)]
   congr 1
   rw [decide_eq_decide]
   exact ⟨fun q=>by rw [q],fun q=>(List.cons.inj q).2⟩
theorem ZZ7 {g:Option Bool} {a b:List En} {f:Nat→Unit→En→Option (Unit⊕(Unit⊕Bool))} (h:∀ j d,f j () d=Za b[j]? none fun e=>bif !(eqE d e) then some (.inr (.inr false)) else some (.inl ()))
  (hg:g=bif (a.length:Int) !=(b.length:Int) then some false else Za (Zp f (fun _=>some (.inl ())) 0 a ()) none fun d4=>Sum.elim (fun _=>some true) (fun e5=>some e5) d4):g=some (decide (a=b)):=by
 rw [hg]
 by_cases hl:a.length=b.length
 ·rw [show ((a.length:Int) !=(b.length:Int))=false by simp [hl],ZXC h a 0 (by omega),List.drop_zero]
  cases decide (a=b)<;>rfl
 ·rw [show ((a.length:Int) !=(b.length:Int))=true by simp;omega,dF0 (fun e=>hl (by rw [e]))];rfl
theorem ZYs (a b:List En) (ha:a.length<2305843009213693952):ZC6 a b=some (decide (a=b)):=by
 unfold ZC6 Zd8
 rw [ZZ7 (g:=ZkF a b) (f:=fun i _ d=>YW b a i d) (fun j d=>rfl) (by
  unfold ZkF
  rw [ZsN b a () (by omega)];rfl)]
 rfl
theorem Zxg (a b:List En) (ha:a.length<2305843009213693952):Zm0 a b=some (decide (a=b)):=
 ZZ7 (f:=fun i _ d=>WV b a i d) (fun j d=>rfl) (by
  unfold Zm0
  rw [ZqW b a () (by omega)];rfl)
def setW (a b:List En) (st:List Int) (e:En):En:=match tget a (ky e),tget b (ky e) with
 | some u,some v=>setV e (rwidV u v st)
 | _,_=>e
theorem Zsv {l:List En} (hs:srt l) (e:En):(fndT e l=true→∃ d,l[posT e l]? = some d∧tget l (ky e)=some (vl d))∧(fndT e l=false→tget l (ky e)=none):=by
 refine ⟨fun h=>?_,fun h=>?_⟩
 ·obtain ⟨d,hd,hk⟩:=Ztv e l h
  exact ⟨d,hd,by rw [← hk];exact ZLA hs (mG0 hd)⟩
 ·cases hg:tget l (ky e) with
  | none=>rfl
  | some v=>
   exfalso
   obtain ⟨d,hd,hk,hv⟩:=ZsU hg
   obtain ⟨q,hq,rfl⟩:=List.mem_iff_getElem.1 hd
   have h0:ordI l[q] e=0:=ZtY.2 hk
   have h1:=fun k=>ZDu e l q _ k (List.getElem?_eq_getElem hq)
   by_cases h2:q<posT e l
   ·have:=h1 h2;omega
   ·have h3:posT e l<l.length:=by omega
    have h4:=ZSz e l h _ (List.getElem?_eq_getElem h3)
    have h5:=ZIi hs (posT e l) _ (Nat.le_refl _) (List.getElem?_eq_getElem h3)
    by_cases h6:q=posT e l
    ·subst h6;exact h4 h0
    ·have:=List.pairwise_iff_getElem.1 hs (posT e l) q h3 hq (by omega)
     rw [ZtZ] at h5
     rw [ZtY] at h4
     rw [hk] at this
     exact h5 this
theorem ZQL (a b:List En) (st:List Int) (hst:st.length<9223372036854775807) (ha:srt a) (hb:srt b) (hn:a.length+b.length≤1000000000):ZoZ a b st=some ((addT rJoin a b).map (setW a b st)):=by
 unfold ZoZ
 simp only [Kx,Zne a b hn,Zb]
 have hl:=Zlz rJoin b a
 generalize addT rJoin a b=l at *
 have key:=Zps (step:=fun x=>K7 x.1 x.2.1 x.2.2.1 x.2.2.2.1 x.2.2.2.2) (fun i r=>(a,b,st,(i:Int),r)) (fun _=>setW a b st) (fun r=>r) l (fun i d r hi hr hd=>by
   have hj:i<l.length:=(List.getElem?_eq_some_iff.1 hi).1
   have e1:decide ((i:Int)<(r.length:Int))=true:=dT0 (by omega)
   have e2:decide (0≤(i:Int))=true:=dT0 (by omega)
   have e3:Int.toNat (i:Int)=i:=tN0 i
   have e4:IntKind.i64.wrap ((i:Int)+1)=((i+1:Nat):Int):=by rw [wr (by omega)];omega
   show K7 a b st (i:Int) r=_
   unfold K7
   simp only [e1,e2,e3,e4,hd,cond_true,Zb,Je,ZDp _ _ (show a.length<9223372036854775807 by omega),ZDp _ _ (show b.length<9223372036854775807 by omega)]
   have noset:r.set i d=r:=by
    refine List.ext_getElem? fun q=>?_
    by_cases hq:i=q
    ·subst hq;rw [List.getElem?_set_self (by omega),hd]
    ·rw [List.getElem?_set_ne hq]
   unfold setW
   cases hfa:fndT d a
   ·rw [(Zsv ha d).2 hfa]
    simp only [cond_false,noset]
   ·obtain ⟨x,hx,hgx⟩:=(Zsv ha d).1 hfa
    rw [hgx]
    cases hfb:fndT d b
    ·rw [(Zsv hb d).2 hfb]
     simp only [cond_false,cond_true,noset]
    ·obtain ⟨y,hy,hgy⟩:=(Zsv hb d).1 hfb
     rw [hgy]
     simp only [cond_true,dT0 (show (0:Int)≤(posT d a:Int) by omega),dT0 (show (0:Int)≤(posT d b:Int) by omega),tN0,hx,hy,Zb,Zfq,ZIb _ _ _ hst]
     rfl)
  (fun r hr=>by
   show K7 a b st (l.length:Int) r=_
   unfold K7
   rw [hr,dF0 (by omega)]
   rfl) (by omega)
 unfold Zkt
 rw [show Zh ZjK Zl (a,b,st,0,l)=_ from key]
 simp only [Zb]
 congr 1
 refine List.ext_getElem? fun q=>?_
 rw [List.getElem?_mapIdx,List.getElem?_map]
theorem Z3e (st:List Int):okF (widF st):=fun u v hu eu hv ev=>by
 obtain ⟨h1,h2,h3,_⟩:=ZEG hu hv st
 refine ⟨h3,?_⟩
 exact (ZdW h1 eu).2
def oneO (f:I→I→I) (k:Ky) (o:Option I) (e:En):Option I:=if Zd (vl e) then o else if ky e=k then some (optV f o (vl e)) else o
theorem Z3x {f:I→I→I} {l:List En} (hs:srt l) (e:En) (k:Ky):tget (stpT f l e) k=oneO f k (tget l k) e:=by
 unfold stpT oneO
 split
 ·rfl
 ·exact ZXs hs k
theorem ZNy {f:I→I→I} (k:Ky):∀ {es l:List En},srt l→tget (addT f l es) k=es.foldl (oneO f k) (tget l k)
 | [],l,_=>rfl
 | e::r,l,hs=>by
  show tget (addT f (stpT f l e) r) k=r.foldl (oneO f k) (oneO f k (tget l k) e)
  rw [ZNy k (es:=r) (ZD9 hs),Z3x hs]
theorem ZPr {f:I→I→I} {k:Ky}:∀ {es:List En} {o:Option I},(∀ e∈es,ky e≠k)→es.foldl (oneO f k) o=o
 | [],_,_=>rfl
 | e::r,o,h=>by
  rw [List.foldl_cons]
  have:oneO f k o e=o:=by
   unfold oneO
   rw [if_neg (h e (List.mem_cons_self ..))]
   split<;>rfl
  rw [this]
  exact ZPr fun x hx=>h x (List.mem_cons_of_mem _ hx)
def bothO (f:I→I→I) (o p:Option I):Option I:=match p with | none=>o | some v=>some (optV f o v)
theorem Zg2 {f:I→I→I} (k:Ky):∀ {b a:List En},srt b→(∀ x∈b,entOK x)→srt a→tget (addT f a b) k=bothO f (tget a k) (tget b k)
 | [],a,_,_,_=>rfl
 | d::r,a,hb,hk,ha=>by
  have h:=List.pairwise_cons.1 hb
  have kd:=hk d (List.mem_cons_self ..)
  rw [ZNy k ha,List.foldl_cons,JT]
  by_cases e:ky d=k
  ·rw [if_pos e,ZPr (fun x hx q=>ZsG (by have:=h.1 x hx;rwa [q,e] at this))]
   unfold oneO
   rw [if_neg (by rw [show Zd (vl d)=false from kd.n];decide),if_pos e];rfl
  ·rw [if_neg e]
   have:oneO f k (tget a k) d=tget a k:=by unfold oneO;rw [if_neg e];split<;>rfl
   rw [this,← ZNy k ha]
   exact Zg2 k h.2 (fun x hx=>hk x (List.mem_cons_of_mem _ hx)) ha
theorem Z2X {g:En→En} (hg:∀ e,ky (g e)=ky e) {l:List En} (h:srt l):srt (l.map g):=by
 unfold srt
 rw [List.pairwise_map]
 exact h.imp fun h=>by rw [hg,hg];exact h
theorem ZXe {g:En→En} (hg:∀ e,ky (g e)=ky e) (k:Ky):∀ {l:List En},tget (l.map g) k=(l.find? fun e=>ky e==k).map fun e=>vl (g e)
 | []=>rfl
 | d::r=>by
  rw [List.map_cons,JT,hg,List.find?_cons]
  by_cases e:ky d=k
  ·rw [if_pos e,show (ky d==k)=true from beq_iff_eq.2 e];rfl
  ·rw [if_neg e,show (ky d==k)=false from beq_eq_false_iff_ne.2 e];exact ZXe hg k
theorem ZUc {a b:List En} {st:List Int} (ha:tabOK a) (hb:tabOK b):(addT rJoin a b).map (setW a b st)=addT (widF st) a b:=by
 have hk:∀ e,ky (setW a b st e)=ky e:=fun e=>by unfold setW;split<;>rfl
 refine Zwu (Z2X hk (ZlA ha.srt)) (ZlA ha.srt) fun k=>?_
 rw [ZXe hk,Zg2 k hb.srt hb.e ha.srt]
 have hj:tget (addT rJoin a b) k=bothO rJoin (tget a k) (tget b k):=Zg2 k hb.srt hb.e ha.srt
 unfold tget at hj ⊢
 cases hf:(addT rJoin a b).find? fun e=>ky e==k with
 | none=>
  rw [hf] at hj
  cases hB:b.find? fun e=>ky e==k with
  | none=>rw [hB] at hj;exact hj
  | some y=>rw [hB] at hj;cases hj
 | some z=>
  rw [hf] at hj
  have hz:ky z=k:=beq_iff_eq.1 (List.find?_some (p:=fun e=>ky e==k) hf)
  simp only [Option.map_some] at hj ⊢
  unfold setW
  rw [hz]
  unfold tget
  cases hB:b.find? fun e=>ky e==k with
  | none=>
   rw [hB] at hj
   cases hA:a.find? fun e=>ky e==k with
   | none=>rw [hA] at hj;cases hj
   | some x=>rw [hA] at hj;exact hj
  | some y=>
   rw [hB] at hj
   cases hA:a.find? fun e=>ky e==k with
   | none=>rw [hA] at hj;exact hj
   | some x=>
    simp only [Option.map_some,bothO,optV]
    congr 1
    show rwidV (vl x) (vl y) st=widV (vl x) (vl y) st
    exact (Z0N (ha.e x (List.mem_of_find?_eq_some hA)).v (hb.e y (List.mem_of_find?_eq_some hB)).v st).symm
def upF (f:I→I→I):Prop:=∀ u v,isB u=true→isB v=true→leqB u (f u v)=true∧leqB v (f u v)=true
theorem Zns:upF Zg:=fun u v _ _=>⟨ZHI u v,ZXa u v⟩
theorem ZCf (st:List Int):upF (widF st):=fun u v hu hv=>⟨(ZEG hu hv st).1,(ZEG hu hv st).2.1⟩
theorem ZqB {l:List En} (h:∀ x∈l,entOK x) {k:Ky} {u:I} (hu:tget l k=some u):isB u=true∧Zd u=false:=by
 obtain ⟨d,hd,_,rfl⟩:=ZsU hu
 exact ⟨(h d hd).v,(h d hd).n⟩
theorem tabOK.a {l:List En} (h:tabOK l):∀ x∈l,okA x:=fun x hx=>(h.e x hx).a
section
open Go.Proofs
variable {u:U} {t:Int} {a b:E}
theorem Z13 {a b:E} (ha:a.1=true) (hb:b.1=true) (h:sameE a b=true):a=b:=by
 unfold sameE at h
 rw [ha,hb] at h
 simp only [Bool.and_true,cond_true,Bool.and_eq_true,decide_eq_true_eq,beq_iff_eq] at h
 obtain ⟨on,V,G,A,must,may⟩:=a
 obtain ⟨on',V',G',A',must',may'⟩:=b
 cases ha;cases hb
 obtain ⟨rfl,rfl,rfl,rfl,rfl⟩:=h
 rfl
end
def Zid (x:(U×(Int×((List En)×Unit)))):Option Re:=ZlB x.1 x.2.1 x.2.2.1
section
open Go.Proofs
theorem ZH1 {a b c:List I} (h:leR a b) (k:leR b c):leR a c:=by
 refine ⟨h.1.trans k.1,fun i x z hx hz=>?_⟩
 have hi:i<a.length:=(List.getElem?_eq_some_iff.1 hx).1
 have hy:b[i]? = some (b[i]'(by rw [← h.1];exact hi)):=List.getElem?_eq_getElem _
 exact KH (h.2 i x _ hx hy) (k.2 i _ z hy hz)
theorem ZNh {a b c:Int} (h:subB a b) (k:subB b c):subB a c:=fun i q=>k i (h i q)
theorem ZP3 (a:Int):subB a a:=fun i q=>q
theorem ZLt {x:E} (h:x.1=true):leE x x:=⟨h,ZLu _,ZLu _,ZLu _,ZP3 _,ZP3 _⟩
theorem ZPz {x y z:E} (h:leE x y) (k:leE y z):leE x z:=⟨k.on,ZH1 h.v k.v,ZH1 h.g k.g,ZH1 h.a k.a,ZNh k.must h.must,ZNh h.may k.may⟩
theorem Zxb (x:E):leO x x:=fun h=>ZLt h
theorem Zpx {x y z:E} (h:leO x y) (k:leO y z):leO x z:=fun q=>ZPz (h q) (k (h q).on)
theorem Zsd {x y:Int} (hx:okB x) (hy:okB y):andI x y=((x.toNat &&& y.toNat:Nat):Int):=by
 unfold okB at *
 have h:=ZCg (a:=x.toNat) (b:=y.toNat) (by omega) (by omega)
 rw [show ((x.toNat:Nat):Int)=x by omega,show ((y.toNat:Nat):Int)=y by omega] at h
 exact h
theorem ZI6 {x y:Int} (hx:okB x) (hy:okB y):orI x y=((x.toNat ||| y.toNat:Nat):Int):=by
 unfold okB at *
 have h:=ZTg (a:=x.toNat) (b:=y.toNat) (by omega) (by omega)
 rw [show ((x.toNat:Nat):Int)=x by omega,show ((y.toNat:Nat):Int)=y by omega] at h
 exact h
theorem Z5U {x y:Int} (hx:okB x) (hy:okB y):subB (andI x y) x:=fun i q=>by
 rw [Zsd hx hy,tN0,Nat.testBit_and,Bool.and_eq_true] at q
 exact q.1
theorem Z2n {x y:Int} (hx:okB x) (hy:okB y):subB (andI x y) y:=fun i q=>by
 rw [Zsd hx hy,tN0,Nat.testBit_and,Bool.and_eq_true] at q
 exact q.2
theorem Z6U {x y:Int} (hx:okB x) (hy:okB y):subB x (orI x y):=fun i q=>by
 rw [ZI6 hx hy,tN0,Nat.testBit_or,q,Bool.true_or]
theorem Z6V {x y:Int} (hx:okB x) (hy:okB y):subB y (orI x y):=fun i q=>by
 rw [ZI6 hx hy,tN0,Nat.testBit_or,q,Bool.or_true]
theorem ZUe {F:I→I→I} {a b:List I} {i:Nat} {z:I} (h:(zipI F a b)[i]? = some z):∃ x,a[i]? = some x∧z=F x (rowAt b i):=by
 unfold zipI at h
 rw [List.getElem?_mapIdx] at h
 cases e:a[i]? with
 | none=>rw [e] at h;cases h
 | some x=>rw [e] at h;exact ⟨x,rfl,(Option.some.inj h).symm⟩
theorem ZBm {b:List I} {i:Nat} {y:I} (h:b[i]? = some y):rowAt b i=y:=by unfold rowAt;rw [h];rfl
theorem ZOX {F:I→I→I} (hF:upF F) {a b:List I} (hl:a.length=b.length) (ha:∀ x∈a,isB x=true) (hb:∀ x∈b,isB x=true):leR a (zipI F a b):=by
 refine ⟨(Zww F a b).symm,fun i x z hx hz=>?_⟩
 obtain ⟨x',h1,rfl⟩:=ZUe hz
 rw [hx] at h1;cases h1
 have hi:i<b.length:=by rw [← hl];exact (List.getElem?_eq_some_iff.1 hx).1
 rw [ZBm (List.getElem?_eq_getElem hi)]
 exact (hF x b[i] (ha x (mG0 hx)) (hb _ (List.getElem_mem hi))).1
theorem ZOY {F:I→I→I} (hF:upF F) {a b:List I} (hl:a.length=b.length) (ha:∀ x∈a,isB x=true) (hb:∀ x∈b,isB x=true):leR b (zipI F a b):=by
 refine ⟨by rw [Zww,hl],fun i y z hy hz=>?_⟩
 obtain ⟨x,h1,rfl⟩:=ZUe hz
 rw [ZBm hy]
 exact (hF x y (ha x (mG0 h1)) (hb y (mG0 hy))).2
def upL (es es':List E):Prop:=∀ (i:Nat) (x:E),es[i]? = some x→∃ y,es'[i]? = some y∧leO x y
theorem ZEF (es:List E):upL es es:=fun i x h=>⟨x,h,Zxb x⟩
theorem Zzo {a b c:List E} (h:upL a b) (k:upL b c):upL a c:=fun i x hx=>by
 obtain ⟨y,hy,q⟩:=h i x hx
 obtain ⟨z,hz,w⟩:=k i y hy
 exact ⟨z,hz,Zpx q w⟩
theorem ZXD {a b:E} (ha:a.1=true) (h:sameE a b=true):a=b:=by
 cases hb:b.1
 ·unfold sameE at h
  rw [ha,hb] at h
  have h':(true==false)=true:=h
  exact absurd h' (by decide)
 ·exact Z13 ha hb h
section
variable {u:U} {t:Int} {l:List En} {st:List Int} {c:C} {a b:E}
theorem ZN6 (ha:envOK u t a) (hb:envOK u t b):a.2.1.length=b.2.1.length∧a.2.2.1.length=b.2.2.1.length∧a.2.2.2.1.length=b.2.2.2.1.length:=by
 obtain ⟨c,hc,h1⟩:=ha.c
 obtain ⟨c',hc',h2⟩:=hb.c
 rw [hc] at hc';cases hc'
 have:=ha.g
 have:=hb.g
 have:=ha.a
 have:=hb.a
 exact ⟨by omega,by omega,by omega⟩
theorem Z26 {F:I→I→I} (hF:upF F) (ha:envOK u t a) (hb:envOK u t b):leE a (mrg F a b):=by
 obtain ⟨l1,l2,l3⟩:=ZN6 ha hb
 exact ⟨rfl,ZOX hF l1 (fun x k=>(envV ha x k).1) fun x k=>(envV hb x k).1,ZOX hF l2 (fun x k=>(envG ha x k).1) fun x k=>(envG hb x k).1,ZOX hF l3 (fun x k=>(envA ha x k).1) fun x k=>(envA hb x k).1,Z5U ha.must hb.must,Z6U ha.may hb.may⟩
theorem Z27 {F:I→I→I} (hF:upF F) (ha:envOK u t a) (hb:envOK u t b):leE b (mrg F a b):=by
 obtain ⟨l1,l2,l3⟩:=ZN6 ha hb
 exact ⟨rfl,ZOY hF l1 (fun x k=>(envV ha x k).1) fun x k=>(envV hb x k).1,ZOY hF l2 (fun x k=>(envG ha x k).1) fun x k=>(envG hb x k).1,ZOY hF l3 (fun x k=>(envA ha x k).1) fun x k=>(envA hb x k).1,Z2n ha.must hb.must,Z6V ha.may hb.may⟩
theorem ZHJ {F:I→I→I} (hF:upF F) (ha1:a.1=true) (ha:envOK u t a) (hb:b.1=true→envOK u t b):leE a (eJoin F a b):=by
 unfold eJoin
 rw [ha1,cond_true]
 cases hb1:b.1
 ·exact ZLt ha1
 ·exact Z26 hF ha (hb hb1)
theorem ZHK {F:I→I→I} (hF:upF F) (ha:a.1=true→envOK u t a) (hb1:b.1=true) (hb:envOK u t b):leE b (eJoin F a b):=by
 unfold eJoin
 rw [hb1]
 cases ha1:a.1
 ·exact ZLt hb1
 ·exact Z27 hF (ha ha1) hb
theorem Z0b {fr to:Int} {old e:E} {n:Int} (ho:okE u t old) (he1:e.1=true) (he:envOK u t e):leE e (nxtV st fr to old e n)∧leO old (nxtV st fr to old e n):=by
 have k1:=ZlD (F:=Zg) (a:=old) he1
 have k2:=ZmQ Zxh ho.env (fun _=>he) k1
 have u1:=ZHK Zns ho.env he1 he
 have u2:leO old (eJoin Zg old e):=fun h=>ZHJ Zns h (ho.env h) fun _=>he
 unfold nxtV
 split
 ·exact ⟨ZPz u1 (ZHK (ZCf st) ho.env k1 k2),fun h=>ZHJ (ZCf st) h (ho.env h) fun _=>k2⟩
 ·exact ⟨u1,u2⟩
theorem ZMd {fr to:Int} {e:E} {es:List E} {ns:List Int} (hes:∀ x∈es,okE u t x) (he:e.1=true→envOK u t e) (h1:to.toNat<es.length) (hl:ns.length=es.length) (h:(comeV st fr to e es ns).1=false) :
  comeV st fr to e es ns=(false,es,ns)∧∃ y,es[to.toNat]? = some y∧leO e y:=by
 have g1:es[to.toNat]? = some es[to.toNat]:=List.getElem?_eq_getElem h1
 have g2:ns[to.toNat]? = some (ns[to.toNat]'(by omega)):=List.getElem?_eq_getElem _
 have ho:=hes _ (List.getElem_mem h1)
 generalize es[to.toNat]=old at g1 ho
 generalize ns[to.toNat]'(by omega)=n at g2
 unfold comeV at h ⊢
 cases he1:e.1
 ·exact ⟨by simp only [he1,g1,g2],old,g1,fun k=>by rw [he1] at k;cases k⟩
 ·simp only [he1,g1,g2] at h ⊢
  cases q:sameE (nxtV st fr to old e n) old
  ·rw [q] at h;cases h
  ·refine ⟨rfl,old,rfl,fun _=>?_⟩
   have hn:=Z0a (st:=st) (fr:=fr) (to:=to) (n:=n) ho he1 (he he1)
   have k:=(Z0b (st:=st) (fr:=fr) (to:=to) (n:=n) ho he1 (he he1)).1
   rw [ZXD hn.1 q] at k
   exact k
theorem ZWl {fr to:Int} {e:E} {es:List E} {ns:List Int} (hes:∀ x∈es,okE u t x) (he:e.1=true→envOK u t e):upL es (comeV st fr to e es ns).2.1:=by
 intro i x hx
 have keep:∃ y,es[i]? = some y∧leO x y:=⟨x,hx,Zxb x⟩
 unfold comeV
 split
 ·rename_i old n he1 g1 g2
  cases sameE (nxtV st fr to old e n) old
  ·simp only [cond_false]
   by_cases q:to.toNat=i
   ·subst q
    rw [g1] at hx;cases hx
    exact ⟨_,List.getElem?_set_self ((List.getElem?_eq_some_iff.1 g1).1),(Z0b (hes _ (mG0 g1)) he1 (he he1)).2⟩
   ·exact ⟨x,by rw [List.getElem?_set_ne q];exact hx,Zxb x⟩
  ·exact keep
 ·exact keep
def Vs (u:U) (t:Int) (l:List En) (es:List E) (i:Nat) (d:A):Prop:=
 ∃ x y,es[d.2.2.2.2.2.2.2.1.toNat]? = some x∧es[d.2.2.2.2.2.2.2.2.toNat]? = some y∧leO (outV u t i ((es[i]?).getD offE) l).1 x∧leO (outV u t i ((es[i]?).getD offE) l).2.1 y
theorem Z1K (hu:unitOK u) (ht:0≤t) (hl:tabOK l) (hn:l.length≤1000) (hc:u.2.2.2[t.toNat]? = some c) {s:St3} (v:Inv u t c.2.length s.2.1 s.2.2) {i:Nat} {d:A} (hd:c.2[i]? = some d) :
  Inv u t c.2.length (nodeV u t l st i s d).2.1 (nodeV u t l st i s d).2.2∧upL s.2.1 (nodeV u t l st i s d).2.1 ∧
  ((nodeV u t l st i s d).1=false→nodeV u t l st i s d=s∧s.1=false∧Vs u t l s.2.1 i d):=by
 obtain ⟨b,es,ns⟩:=s
 simp only at v
 have hi:=(List.getElem?_eq_some_iff.1 hd).1
 have ha:=(hu.ts c (mG0 hc)).a d (mG0 hd)
 have hie:i<es.length:=by rw [v.le];exact hi
 have ge:es[i]? = some es[i]:=List.getElem?_eq_getElem hie
 obtain ⟨_,_,o3,_⟩:=Znh hu ht hl hn hc (v.ok _ (List.getElem_mem hie)) hi
 have hx:=ha.nx
 have hy:=ha.el
 have ve:=v.le
 have vn:=v.ln
 have hN:nodeV u t l st i (b,es,ns) d=(b||(comeV st i d.2.2.2.2.2.2.2.1 (outV u t i es[i] l).1 es ns).1||(comeV st i d.2.2.2.2.2.2.2.2 (outV u t i es[i] l).2.1 (comeV st i d.2.2.2.2.2.2.2.1 (outV u t i es[i] l).1 es ns).2.1 (comeV st i d.2.2.2.2.2.2.2.1 (outV u t i es[i] l).1 es ns).2.2).1,
   (comeV st i d.2.2.2.2.2.2.2.2 (outV u t i es[i] l).2.1 (comeV st i d.2.2.2.2.2.2.2.1 (outV u t i es[i] l).1 es ns).2.1 (comeV st i d.2.2.2.2.2.2.2.1 (outV u t i es[i] l).1 es ns).2.2).2):=by
  unfold nodeV
  simp only [ge,Option.getD_some]
 rw [hN]
 have hA:Vs u t l es i d↔∃ x y,es[d.2.2.2.2.2.2.2.1.toNat]? = some x∧es[d.2.2.2.2.2.2.2.2.toNat]? = some y∧leO (outV u t i es[i] l).1 x∧leO (outV u t i es[i] l).2.1 y:=by
  unfold Vs
  simp only [ge,Option.getD_some]
 simp only [hA]
 clear hN hA
 generalize outV u t i es[i] l=o at o3
 have c1:=ZIW (st:=st) (fr:=(i:Int)) (to:=d.2.2.2.2.2.2.2.1) (e:=o.1) (ns:=ns) v.ok o3.nx
 have u1:=ZWl (st:=st) (fr:=(i:Int)) (to:=d.2.2.2.2.2.2.2.1) (e:=o.1) (ns:=ns) v.ok o3.nx
 have s1:=ZMd (st:=st) (fr:=(i:Int)) (to:=d.2.2.2.2.2.2.2.1) (e:=o.1) (ns:=ns) v.ok o3.nx (by omega) (by omega)
 generalize comeV st i d.2.2.2.2.2.2.2.1 o.1 es ns=r at c1 u1 s1
 have c2:=ZIW (st:=st) (fr:=(i:Int)) (to:=d.2.2.2.2.2.2.2.2) (e:=o.2.1) (ns:=r.2.2) c1.1 o3.el
 have u2:=ZWl (st:=st) (fr:=(i:Int)) (to:=d.2.2.2.2.2.2.2.2) (e:=o.2.1) (ns:=r.2.2) c1.1 o3.el
 have s2:=ZMd (st:=st) (fr:=(i:Int)) (to:=d.2.2.2.2.2.2.2.2) (e:=o.2.1) (ns:=r.2.2) c1.1 o3.el (by omega) (by omega)
 generalize comeV st i d.2.2.2.2.2.2.2.2 o.2.1 r.2.1 r.2.2=q at c2 u2 s2
 refine ⟨⟨c2.1,c2.2.1.trans (c1.2.1.trans v.le),c2.2.2.trans (c1.2.2.trans v.ln)⟩,Zzo u1 u2,fun h=>?_⟩
 simp only [Bool.or_eq_false_iff] at h
 obtain ⟨⟨rfl,h1⟩,h2⟩:=h
 obtain ⟨rfl,x,gx,lx⟩:=s1 h1
 obtain ⟨rfl,y,gy,ly⟩:=s2 h2
 exact ⟨rfl,rfl,x,y,gx,gy,lx,ly⟩
theorem ZPT (hu:unitOK u) (ht:0≤t) (hl:tabOK l) (hn:l.length≤1000) (hc:u.2.2.2[t.toNat]? = some c):∀ (r:List A) (i:Nat) (s:St3),c.2.drop i=r→Inv u t c.2.length s.2.1 s.2.2→
  Inv u t c.2.length (ZK (fun i s d=>nodeV u t l st i s d) i r s).2.1 (ZK (fun i s d=>nodeV u t l st i s d) i r s).2.2∧upL s.2.1 (ZK (fun i s d=>nodeV u t l st i s d) i r s).2.1 ∧
  ((ZK (fun i s d=>nodeV u t l st i s d) i r s).1=false→ZK (fun i s d=>nodeV u t l st i s d) i r s=s∧s.1=false∧∀ (j:Nat) (d:A),r[j]? = some d→Vs u t l s.2.1 (i+j) d)
 | [],i,s,_,v=>⟨v,ZEF _,fun h=>⟨rfl,h,fun j d k=>by simp at k⟩⟩
 | d::r,i,s,hd,v=>by
  have e:c.2[i]? = some d:=by
   have:=congrArg (fun q=>q[0]?) hd
   simpa using this
  obtain ⟨n1,n2,n3⟩:=Z1K (st:=st) hu ht hl hn hc v e
  obtain ⟨h1,h2,h3⟩:=ZPT hu ht hl hn hc r (i+1) (nodeV u t l st i s d) (by rw [← List.drop_drop,hd];rfl) n1
  rw [ZK]
  refine ⟨h1,Zzo n2 h2,fun h=>?_⟩
  obtain ⟨k1,k2,k3⟩:=h3 h
  obtain ⟨q1,q2,q3⟩:=n3 k2
  rw [q1] at k1 k3
  refine ⟨by rw [q1];exact k1,q2,fun j d' hj=>?_⟩
  cases j with
  | zero=>rw [List.getElem?_cons_zero] at hj;cases hj;exact q3
  | succ j=>
   rw [List.getElem?_cons_succ] at hj
   have:=k3 j d' hj
   rw [show i+(j+1)=i+1+j by omega]
   exact this
end
end
section
open Go.Proofs
def rdV (L:List I) (i:Int):I:=(L[i.toNat]?).getD nn
def notI (op:Int):Int:=(Ztz op).getD 0
def oV (u:U) (t n:Int) (e:E) (l:List En) (a:A):O:=
 match a with
 | (k,T,X,Y,G,N,op,nx,el)=>
  bif !e.1 then (offE,offE,[],[],[]) else
  bif k==1 then (setE e T (N,N),offE,[],[],[]) else
  bif k==2 then (setE e T (rdV e.2.1 X),offE,[],[],[]) else
  bif k==3 then (setE e T (-2147483648,2147483647),offE,[],[],[]) else
  bif k==4 then (bif Zd (doI op (rdV e.2.1 X) (rdV e.2.1 Y)).1 then offE else setE e T (doI op (rdV e.2.1 X) (rdV e.2.1 Y)).1,offE,(bif (doI op (rdV e.2.1 X) (rdV e.2.1 Y)).2.1 then [7] else [])++(bif (doI op (rdV e.2.1 X) (rdV e.2.1 Y)).2.2 then [8] else []),[],[]) else
  bif k==5 then (setE e T (readV (rdV e.2.2.1 G) l t false G e.2.2.2.2.1),offE,[],[],[(t,n,false,G,false,e.2.2.2.2.1)]) else
  bif k==6 then ((e.1,e.2.1,e.2.2.1.set G.toNat (rdV e.2.1 X),e.2.2.2),offE,[],[(t,false,G,e.2.2.2.2.1,rdV e.2.1 X)],[(t,n,false,G,true,e.2.2.2.2.1)]) else
  bif k==7 then (bif Zd (mSpan (rdV e.2.1 X) (0,(u.2.1[G.toNat]?).getD 0 - 1)) then offE else setE (setE e X (mSpan (rdV e.2.1 X) (0,(u.2.1[G.toNat]?).getD 0 - 1))) T (readV (rdV e.2.2.2.1 G) l t true G e.2.2.2.2.1),offE,(bif leqB (rdV e.2.1 X) (0,(u.2.1[G.toNat]?).getD 0 - 1) then [] else [9]),[],[(t,n,true,G,false,e.2.2.2.2.1)]) else
  bif k==8 then (bif Zd (mSpan (rdV e.2.1 X) (0,(u.2.1[G.toNat]?).getD 0 - 1)) then offE else (e.1,e.2.1.set X.toNat (mSpan (rdV e.2.1 X) (0,(u.2.1[G.toNat]?).getD 0 - 1)),e.2.2.1,e.2.2.2.1.set G.toNat (rJoin (rdV e.2.2.2.1 G) (rdV (e.2.1.set X.toNat (mSpan (rdV e.2.1 X) (0,(u.2.1[G.toNat]?).getD 0 - 1))) Y)),e.2.2.2.2),offE,(bif leqB (rdV e.2.1 X) (0,(u.2.1[G.toNat]?).getD 0 - 1) then [] else [9]),[(t,true,G,e.2.2.2.2.1,rdV e.2.1 Y)],[(t,n,true,G,true,e.2.2.2.2.1)]) else
  bif k==9 then (bif tb e.2.2.2.2.1 G then offE else (e.1,e.2.1,gmap l t false e.2.2.2.2.1 G e.2.2.1,gmap l t true e.2.2.2.2.1 G e.2.2.2.1,wiI e.2.2.2.2.1 G,wiI e.2.2.2.2.2 G),offE,(bif tb e.2.2.2.2.2 G then [11] else []),[],[]) else
  bif k==10 then (bif tb e.2.2.2.2.2 G then (e.1,e.2.1,e.2.2.1,e.2.2.2.1,woI e.2.2.2.2.1 G,woI e.2.2.2.2.2 G) else offE,offE,(bif tb e.2.2.2.2.1 G then [] else [12]),[],[]) else
  bif k==11 then (sideV e X Y op (rdV e.2.1 X) (rdV e.2.1 Y),sideV e X Y (notI op) (rdV e.2.1 X) (rdV e.2.1 Y),[],[],[]) else
  bif k==12 then (e,offE,[],[],[]) else
  bif k==13 then (offE,offE,[10],[],[]) else (offE,offE,[],[],[])
theorem Zcc {L:List I} {i:Int} {x:I} (h:L[i.toNat]? = some x):rdV L i=x:=by unfold rdV;rw [h];rfl
variable {u:U} {t n:Int} {e:E} {l:List En} {c:C}
theorem Z4g (hu:unitOK u) (ht:0≤t) (hl:tabOK l) (hn:l.length≤1000) (he:e.1=true→envOK u t e) (h1:0≤n) (hc:u.2.2.2[t.toNat]? = some c) {a:A} (ga:c.2[n.toNat]? = some a) :
  Za2 u t n e l=some (oV u t n e l a):=by
 have h2:n<(c.2.length:Int):=by have:=(List.getElem?_eq_some_iff.1 ga).1;omega
 cases he1:e.1
 ·obtain ⟨on,V,G,A,must,may⟩:=e
  cases he1
  have e0:decide (0≤t)=true:=dT0 ht
  have e1:decide (0≤n)=true:=dT0 h1
  unfold Za2
  rw [e0,hc,e1,cond_true,Zb,cond_true,ga,Zb]
  rfl
 have hE:=he he1
 have ha:=(hu.ts c (mG0 hc)).a a (mG0 ga)
 rw [ZRf u t n e l c a ht hc h1 ga he1]
 have hle:=hl.e
 obtain ⟨cc,hc',hv⟩:=hE.c
 obtain rfl:cc=c:=by rw [hc] at hc';exact (Option.some.inj hc').symm
 have vx:∀ {X:Int},0≤X∧X<cc.1→∃ x,e.2.1[X.toNat]? = some x:=fun {X} h=>ZL e.2.1 X (by omega)
 have gx:∀ {G:Int},0≤G∧G<(u.1.length:Int)→∃ x,e.2.2.1[G.toNat]? = some x:=fun {G} h=>ZL e.2.2.1 G (by rw [hE.g];exact h)
 have ax:∀ {G:Int},0≤G∧G<(u.2.1.length:Int)→∃ x m,e.2.2.2.1[G.toNat]? = some x∧u.2.1[G.toNat]? = some m:=fun {G} h=>by
  obtain ⟨x,gx⟩:=ZL e.2.2.2.1 G (by rw [hE.a];exact h)
  obtain ⟨m,gm⟩:=ZL u.2.1 G h
  exact ⟨x,m,gx,gm⟩
 obtain ⟨k,T,X,Y,G,N,op,nx,el⟩:=a
 have k1:1≤k:=ha.k1
 have k2:k≤14:=ha.k2
 have hk:k=1∨k=2∨k=3∨k=4∨k=5∨k=6∨k=7∨k=8∨k=9∨k=10∨k=11∨k=12∨k=13∨k=14:=by omega
 rcases hk with rfl | rfl | rfl | rfl | rfl | rfl | rfl | rfl | rfl | rfl | rfl | rfl | rfl | rfl
 ·rw [ZRr u t n e l cc T X Y G N op nx el hu hle hn hE hc ha]
  simp only [oV,he1,Bool.not_true,cond_false];rfl
 ·obtain ⟨x,g1⟩:=vx (Zy.1 ha.h2)
  rw [ZRs u t n e l cc T X Y G N op nx el g1 hu hle hn hE hc ha]
  simp only [oV,he1,Bool.not_true,cond_false,Zcc g1];rfl
 ·rw [ZRt u t n e l cc T X Y G N op nx el hu hle hn hE hc ha]
  simp only [oV,he1,Bool.not_true,cond_false];rfl
 ·obtain ⟨x,g1⟩:=vx (Zy.1 ha.h2)
  obtain ⟨y,g2⟩:=vx (Zy.1 ha.h3)
  rw [ZRu u t n e l cc T X Y G N op nx el g1 g2 hu hle hn hE hc ha]
  simp only [oV,he1,Bool.not_true,cond_false,Zcc g1,Zcc g2];rfl
 ·obtain ⟨x,g1⟩:=gx (Zy.1 ha.h4)
  rw [ZRv u t n e l cc T X Y G N op nx el g1 hu hle hn hE hc ha]
  simp only [oV,he1,Bool.not_true,cond_false,Zcc g1];rfl
 ·obtain ⟨x,g1⟩:=vx (Zy.1 ha.h2)
  rw [ZRw u t n e l cc T X Y G N op nx el g1 hu hle hn hE hc ha]
  simp only [oV,he1,Bool.not_true,cond_false,Zcc g1];rfl
 ·obtain ⟨x,g1⟩:=vx (Zy.1 ha.h2)
  obtain ⟨d,m,g2,gm⟩:=ax (Zy.1 ha.h4)
  rw [ZRx u t n e l cc T X Y G N op nx el g1 gm g2 hu hle hn hE hc ha]
  simp only [oV,he1,Bool.not_true,cond_false,Zcc g1,Zcc g2,gm,Option.getD_some];rfl
 ·obtain ⟨x,g1⟩:=vx (Zy.1 ha.h2)
  obtain ⟨y,g3⟩:=vx (Zy.1 ha.h3)
  obtain ⟨d,m,g2,gm⟩:=ax (Zy.1 ha.h4)
  have hY:0≤Y∧Y<cc.1:=Zy.1 ha.h3
  obtain ⟨y',gy'⟩:=ZL (e.2.1.set X.toNat (mSpan x (0,m - 1))) Y (by rw [List.length_set];omega)
  rw [ZRy u t n e l cc T X Y G N op nx el g1 g3 gm g2 gy' hu hle hn hE hc ha]
  simp only [oV,he1,Bool.not_true,cond_false,Zcc g1,Zcc g2,Zcc g3,gm,Option.getD_some,Zcc gy'];rfl
 ·rw [ZRz u t n e l cc T X Y G N op nx el hu hle hn hE hc ha]
  simp only [oV,he1,Bool.not_true,cond_false];rfl
 ·rw [ZNk u t n e l cc T X Y G N op nx el hu hle hn hE hc ha]
  simp only [oV,he1,Bool.not_true,cond_false];rfl
 ·obtain ⟨x,g1⟩:=vx (Zy.1 ha.h2)
  obtain ⟨y,g2⟩:=vx (Zy.1 ha.h3)
  obtain ⟨w,n1⟩:=ZML op
  have hw:notI op=w:=by unfold notI;rw [n1];rfl
  rw [ZNl u t n e l cc T X Y G N op nx el g1 g2 n1 hu hle hn hE hc ha]
  simp only [oV,he1,Bool.not_true,cond_false,Zcc g1,Zcc g2,hw];rfl
 ·rw [ZNm u t n e l cc T X Y G N op nx el hu hle hn hE hc ha]
  simp only [oV,he1,Bool.not_true,cond_false];rfl
 ·rw [ZNn u t n e l cc T X Y G N op nx el hu hle hn hE hc ha]
  simp only [oV,he1,Bool.not_true,cond_false];rfl
 ·rw [ZNo u t n e l cc T X Y G N op nx el hu hle hn hE hc ha]
  simp only [oV,he1,Bool.not_true,cond_false];rfl
end
section
open Go.Proofs
section
variable {u:U} {t:Int} {l l':List En} {st:List Int} {c:C}
theorem ZOr (hu:unitOK u) (ht:0≤t) (hl:tabOK l) (hn:l.length≤1000) (hc:u.2.2.2[t.toNat]? = some c) {e:E} (he:e.1=true→envOK u t e) {i:Nat} {d:A} (hd:c.2[i]? = some d):outV u t i e l=oV u t i e l d:=by
 unfold outV
 rw [Z4g hu ht hl hn he (n:=(i:Int)) (by omega) hc (by rw [tN0];exact hd)]
 rfl
end
end
section
open Go.Proofs
theorem ZDa {a b:I} (ha:Zd a=false) (hb:Zd b=false) (h:leqB b a=true):Zg a b=a:=by
 rw [QE] at h
 have ka:=ZS ha
 have kb:=ZS hb
 unfold Zg
 rw [ha,hb]
 unfold sub at h
 obtain ⟨a1,a2⟩:=a
 obtain ⟨b1,b2⟩:=b
 simp only [Bool.false_eq_true,if_false] at *
 rw [Prod.mk.injEq]
 simp only [mn,mx]
 constructor<;>(repeat' split)<;>omega
section
variable {u:U} {t:Int} {l l':List En} {st:List Int} {c:C} {a b z:E}
theorem ZPV (a:E):sameE a a=true:=by
 unfold sameE
 cases a.1<;>simp
end
end
abbrev VF:=(Int×Int×Int×(List Int)×(List Int)×Int×(List C))
abbrev J5:=((List Int)×(List Int)×Int×(List C))
abbrev J6:=(Bool×(List Int)×(List Int)×Int×(List C))
def ZbJ (s1 s5 s6:Int) (b0 b0_1:List Int) (b0_2:Int) (b0_3:List C):Option ((Int×Int×Int×(List Int)×(List Int)×Int×(List C))⊕(((List Int)×(List Int)×Int×(List C))⊕(Bool×(List Int)×(List Int)×Int×(List C)))):=bif decide (s6<(b0_3.length:Int)) then bif decide (0≤s6) then Za b0_3[s6.toNat]? none fun d9=>bif decide (IntKind.i64.wrap (s5+(List.length d9.2:Int))>s1) then some (.inr (.inr (true,b0,b0_1,b0_2,b0_3))) else some (.inl (s1,IntKind.i64.wrap (s5+(List.length d9.2:Int)),IntKind.i64.wrap (s6+1),b0,b0_1,b0_2,b0_3)) else none else some (.inr (.inl (b0,b0_1,b0_2,b0_3)))
def Zr3:VF→Option (VF⊕(J5⊕J6)):=fun (a,b,c,d,e,f,g)=>ZbJ a b c d e f g
def ZcE (x:VF):Option (J5⊕J6):=Zh Zr3 Zl x
def Zta (a0:U) (a1:Int):Option Bool:=bif decide ((List.length a0.2.2.2:Int)>4) then some true else bif decide ((List.length a0.1:Int)>10) then some true else bif decide ((List.length a0.2.1:Int)>10) then some true else Za (ZcE (a1,0,0,a0)) none fun d4=>Sum.elim (fun e5=>Za (Zpm (e5,())) none fun d6=>some !d6) (fun e5=>some e5.1) d4
def Qz (s1:Int) (b0 b0_1:List Int) (b0_2:Int) (b0_3:List C) (i:Nat) (s5:Int) (d:C):Option (Int⊕(J5⊕J6)):=
 bif decide (IntKind.i64.wrap (s5+(↑(List.length d.2):Int))>s1) then
  some (.inr (.inr (true,b0,b0_1,b0_2,b0_3)))
 else some (.inl (IntKind.i64.wrap (s5+(↑(List.length d.2):Int))))
def HK (s1:Int) (b0 b0_1:List Int) (b0_2:Int) (b0_3:List C) (s5:Int):Option (J5⊕J6):=
 some (.inl (b0,b0_1,b0_2,b0_3))
abbrev ZGp (s1:Int) (b0 b0_1:List Int) (b0_2:Int) (b0_3:List C) (i:Nat) (s:Int):VF:=(s1,s,(i:Int),b0,b0_1,b0_2,b0_3)
def Zl3 (s1:Int) (b0 b0_1:List Int) (b0_2:Int) (b0_3:List C) (s:Int):Option (J5⊕J6):=Zp (fun i s d=>Qz s1 b0 b0_1 b0_2 b0_3 i s d) (fun s=>HK s1 b0 b0_1 b0_2 b0_3 s) 0 b0_3 s
theorem ZGd (s1:Int) (b0 b0_1:List Int) (b0_2:Int) (b0_3:List C) (s:Int) (hl:b0_3.length<9223372036854775807):ZcE (s1,s,0,b0,b0_1,b0_2,b0_3)=Zl3 s1 b0 b0_1 b0_2 b0_3 s:=by
 unfold ZcE Zl3
 refine Zs b0_3 (ZGp s1 b0 b0_1 b0_2 b0_3) _ _ ?_ ?_ s (by unfold Zl;omega)
 ·intro i s d hi hd
  have e1:decide ((i:Int)<(b0_3.length:Int))=true:=dT0 (by omega)
  have e2:decide (0≤(i:Int))=true:=dT0 (by omega)
  have e3:Int.toNat (i:Int)=i:=tN0 i
  have e4:=Zq hi (Nat.le_of_lt hl)
  show ZbJ (s1) (s) ((i:Int)) (b0) (b0_1) (b0_2) (b0_3)=upd _ (Qz s1 b0 b0_1 b0_2 b0_3 i s d)
  unfold ZbJ Qz
  simp only [e1,e2,e3,e4,hd,cond_true,cond_false,Zb,ZC,ZF,ZD,ZI,ZJ,ZE]
 ·intro s
  have e1:decide ((b0_3.length:Int)<(b0_3.length:Int))=false:=dF0 (by omega)
  show ZbJ (s1) (s) ((b0_3.length:Int)) (b0) (b0_1) (b0_2) (b0_3)=_
  unfold ZbJ HK
  rw [e1]
  rfl
def ZK1:List Sh:=[.dat (.sl tR)]
def ZkG:Nat→List Nat:=fun c=>bif c.beq 0 then [3,6,7,8] else [3]
def Zzc:List Con:=[⟨81,Zs8,ZAa⟩]
def ZdK:StS:=⟨[(3,.row 0),(6,.sl tR),(7,.int .i64),(8,.int .i64)],[(0,.row tEn)],1⟩
def Hb:StS:=⟨[(3,.row 0)],[(0,.row tEn)],1⟩
abbrev K0:=((List Re)×Int×Int×(List En))
def Zzx:StD ZdK→K0:=fun ((_,a,b,c,_),(d,_))=>(a,b,c,d)
def ZAd:K0→StD ZdK:=fun (a,b,c,d)=>(((),a,b,c,()),(d,()))
abbrev QJ:=(List En)
def ZSu (d:StD Hb):QJ:=(d.2.1)
def ZfI (x:QJ):StD Hb:=(((),()),(x,()))
def HZ (s6:List Re) (s7 s8:Int) (b0:List En):Option (((List Re)×Int×Int×(List En))⊕(List En)):=bif decide (s8<s7) then bif decide (0≤s8) then Za s6[s8.toNat]? none fun d6=>Za (Zhb (b0,d6.2.1,())) none fun d7=>some (.inl (s6,s7,IntKind.i64.wrap (s8+1),d7)) else none else some (.inr b0)
def ZoJ:K0→Option (K0⊕QJ):=fun (a,b,c,d)=>HZ a b c d
def Zdl (x:K0):Option QJ:=Zh ZoJ Zl x
def ZrQ:Nat→Tm→Prog (Nat×Tm):=(varP 0 (fun T h=>(rdS ZdK T h).map Zzx) Zdl (altE 2 Hb ZfI) (fun _ _=>.fail))
def ZDd:Lpc:=⟨73,0,18,(ownP [] [(3,tEn)] (ZkG 0) (fun base T=>.norm base (ZkG 0) T (ZrQ base))),by kernel_rfl,by kernel_rfl,(Ja (loopU Zzc [] 40 1048576 8 (keep:=ZkG) (q:=ZrQ) (by kernel_rfl) (Zv (s:=ZdK) (un:=ZAd) (by rfl) (fun _=>rfl) (Zn (s:=Hb) (un:=ZfI) (flat:=ZSu) (by rfl) (fun _=>rfl)) (step:=ZoJ) (fun _=>by kernel_rfl) (fun _ _ e=>⟨_,e⟩) (Zm 2 Hb ZfI) (ZB.fail _ _))))⟩
def Zsx (a0:List Re):Option (List En):=Za (Zdl (a0,(a0.length:Int),0,[])) none fun d3=>some d3
def Znw (x:(List Re)×Unit):Option (List En):=Zsx x.1
def ZwI:=conR false ZK1 tEn Znw
theorem ZLM:Zf Tryz.prog 73 ZwI:=ZhA (calU Zzc [ZDd] 40 1048576 8 73) false (by rfl) (fun x r e=>(Zpp _ _ _ _ _ _ _).trans ((show _=Znw x by kernel_rfl).trans e)) (.inr (by rfl))
def HT  (s6:(List Re)) (i:Nat) (b0:(List En)) (d:Re):Option ((List En)⊕QJ):=
 Za (Zhb (b0,d.2.1,())) (none) fun d7=>
  some (.inl (d7))
def Zii  (s6:(List Re)) (b0:(List En)):Option QJ:=
 some b0
abbrev Zz2  (s6:(List Re)) (i:Nat) (s:(List En)):K0:=(s6,(s6.length:Int),(i:Int),s)
def Zim  (s6:(List Re)) (s:(List En)):Option QJ:=Zp (fun i s d=>HT  s6 i s d) (fun s=>Zii  s6 s) 0 s6 s
theorem ZzY  (s6:(List Re)) (s:(List En)) (hl:s6.length<9223372036854775807):Zdl (s6,(s6.length:Int),0,s)=Zim  s6 s:=by
 unfold Zdl Zim
 refine Zs s6 (Zz2  s6) _ _ ?_ ?_ s (by unfold Zl;omega)
 ·intro i s d hi hd
  have e1:decide ((i:Int)<(s6.length:Int))=true:=dT0 (by omega)
  have e2:decide (0≤(i:Int))=true:=dT0 (by omega)
  have e3:Int.toNat (i:Int)=i:=tN0 i
  have e4:=Zq hi (Nat.le_of_lt hl)
  show HZ (s6) ((s6.length:Int)) ((i:Int)) (s)=upd _ (HT  s6 i s d)
  unfold HZ HT
  simp only [e1,e2,e3,e4,hd,cond_true,cond_false,Zb,ZC,ZF,ZD,ZI,ZJ,ZE]
 ·intro s
  have e1:decide ((s6.length:Int)<(s6.length:Int))=false:=dF0 (by omega)
  show HZ (s6) ((s6.length:Int)) ((s6.length:Int)) (s)=_
  unfold HZ Zii
  rw [e1]
  rfl
def ZJk:List Sh:=[.dat (.sl tR)]
def Zpu:Nat→List Nat:=fun c=>bif c.beq 0 then [5,6,7] else [2]
def ZxU:List Con:=[]
def Zcr:StS:=⟨[(5,.sl tR),(6,.int .i64),(7,.int .i64)],[],0⟩
def Yt:StS:=⟨[(2,.undef)],[],0⟩
def Yu:StS:=⟨[(2,.bool)],[],0⟩
abbrev KB:=((List Re)×Int×Int)
def Zyg:StD Zcr→KB:=fun ((a,b,c,_),_)=>(a,b,c)
def Zyv:KB→StD Zcr:=fun (a,b,c)=>((a,b,c,()),())
abbrev Qt:=Unit
def ZRh (d:StD Yt):Qt:=()
def Ze0 (x:Qt):StD Yt:=(((),()),())
abbrev Qu:=Bool
def ZRi (d:StD Yu):Qu:=(d.1.1)
def Ze1 (x:Qu):StD Yu:=((x,()),())
def Y4 (s5:List Re) (s6 s7:Int):Option (((List Re)×Int×Int)⊕(Unit⊕Bool)):=bif decide (s7<s6) then bif decide (0≤s7) then Za s5[s7.toNat]? none fun d5=>bif !d5.2.2.2.2.2 then some (.inr (.inr false)) else some (.inl (s5,s6,IntKind.i64.wrap (s7+1))) else none else some (.inr (.inl PUnit.unit))
def ZnY:KB→Option (KB⊕(Qt⊕Qu)):=fun (a,b,c)=>Y4 a b c
def Zcf (x:KB):Option (Qt⊕Qu):=Zh ZnY Zl x
def ZqO:Nat→Tm→Prog (Nat×Tm):=(varP 0 (fun T h=>(rdS Zcr T h).map Zyg) Zcf (fun y=>.alt y (altE 2 Yt Ze0) (altE 1 Yu Ze1)) (fun _ _=>.fail))
def ZAV:Lpc:=⟨46,0,15,(fun base T=>.norm base (Zpu 0) T (ZqO base)),by kernel_rfl,by kernel_rfl,(loopU ZxU [] 40 1048576 8 (keep:=Zpu) (q:=ZqO) (by kernel_rfl) (Zv (s:=Zcr) (un:=Zyv) (by rfl) (fun _=>rfl) (ZW (Zn (s:=Yt) (un:=Ze0) (flat:=ZRh) (by rfl) (fun _=>rfl)) (Zn (s:=Yu) (un:=Ze1) (flat:=ZRi) (by rfl) (fun _=>rfl))) (step:=ZnY) (fun _=>by kernel_rfl) (fun _ _ e=>⟨_,e⟩) (ZV (Zm 2 Yt Ze0) (Zm 1 Yu Ze1)) (ZB.fail _ _)))⟩
def Zqw (a0:List Re):Option Bool:=Za (Zcf (a0,(a0.length:Int),0)) none fun d3=>Sum.elim (fun e4=>some true) (fun e4=>some e4) d3
def Zha (x:(List Re)×Unit):Option Bool:=Zqw x.1
def ZuY:=conP false ZJk (.dat .bool) Zha
theorem ZJZ:Zf Tryz.prog 46 ZuY:=Ze (calU ZxU [ZAV] 40 1048576 8 46) false (by rfl) (by rfl) (fun x r e=>(Zk _ _ _ _ _ _ _).trans ((show _=Zha x by kernel_rfl).trans e)) (.inr fun _=>rfl)
def Zbc  (s5:(List Re)) (i:Nat)  (d:Re):Option (Unit⊕(Qt⊕Qu)):=
 bif !d.2.2.2.2.2 then
  some (.inr (.inr false))
 else some (.inl ())
def ZnR  (s5:(List Re)):Option (Qt⊕Qu):=
 some (.inl PUnit.unit)
abbrev Zyr  (s5:(List Re)) (i:Nat) (s:Unit):KB:=(s5,(s5.length:Int),(i:Int))
def ZgF  (s5:(List Re)) (s:Unit):Option (Qt⊕Qu):=Zp (fun i s d=>Zbc  s5 i  d) (fun s=>ZnR  s5 ) 0 s5 s
theorem Zyn  (s5:(List Re)) (s:Unit) (hl:s5.length<9223372036854775807):Zcf (s5,(s5.length:Int),0)=ZgF  s5 s:=by
 unfold Zcf ZgF
 refine Zs s5 (Zyr  s5) _ _ ?_ ?_ s (by unfold Zl;omega)
 ·intro i s d hi hd
  have e1:decide ((i:Int)<(s5.length:Int))=true:=dT0 (by omega)
  have e2:decide (0≤(i:Int))=true:=dT0 (by omega)
  have e3:Int.toNat (i:Int)=i:=tN0 i
  have e4:=Zq hi (Nat.le_of_lt hl)
  show Y4 (s5) ((s5.length:Int)) ((i:Int))=upd _ (Zbc  s5 i  d)
  unfold Y4 Zbc
  simp only [e1,e2,e3,e4,hd,cond_true,cond_false,Zb,ZC,ZF,ZD,ZI,ZJ,ZE]
 ·intro s
  have e1:decide ((s5.length:Int)<(s5.length:Int))=false:=dF0 (by omega)
  show Y4 (s5) ((s5.length:Int)) ((s5.length:Int))=_
  unfold Y4 ZnR
  rw [e1]
  rfl
abbrev Zx1:Type:=((List Int)×Int×Int×(List Int)×(List Int)×Int×(List C)×Int×Bool×(List En)×Int×Bool×(List Re)×(List Int)×(List Int)×Int×(List C)×(List Re))
abbrev Zx2:Type:=((List Int)×Int×Int×(List Int)×(List Int)×Int×(List C)×Int×Bool×Int×Bool×(List Int)×(List Int)×Int×(List C)×(List Re))
abbrev Zx3:Type:=((List Int)×(List Int)×(List Int)×Int×(List C)×Int×Bool×(List En)×Int×Bool×(List Re)×(List Re))
abbrev Zx4:Type:=((List Int)×Bool×(List Int)×(List Int)×Int×(List C)×Int×Bool×Int×Bool×(List Re)×(List En))
abbrev Zx5:Type:=((List Int)×(List Int)×(List Int)×Int×(List C)×Int×Bool×Int×Bool×(List Re))
def ZQr:List Sh:=[.dat tU]
def Zod:Nat→List Nat:=fun c=>bif c.beq 0 then [0,2,4,14,15] else [0,2]
def Zoc:Nat→List Nat:=fun c=>bif c.beq 0 then [1,2,3,4,5] else [2,3]
def Zq3:List Con:=[⟨43,Zuv,ZE2⟩,⟨45,ZHj,ZTM⟩,⟨46,ZuY,ZJZ⟩,⟨24,Zig,ZlG⟩,⟨73,ZwI,ZLM⟩,⟨72,ZHi,ZTL⟩,⟨74,ZEU,ZQ2⟩]
def ZhW:StS:=⟨[(0,.ptr 2 0),(2,.sl (.int .i64)),(4,.ptr 5 0),(14,.int .i64),(15,.int .i64)],[(0,.box [.sl (.int .i64),.sl (.int .i64),.int .i64,.sl tC]),(1,.box [.nil,.nil,.int .i64,.bool]),(2,.box [.row 6,.sl tEn,.int .i64,.bool]),(3,.row tR),(5,.box [.sl (.int .i64),.sl (.int .i64),.int .i64,.sl tC]),(6,.row tR)],7⟩
def ZaE:StS:=⟨[(0,.ptr 2 0),(2,.sl (.int .i64))],[(0,.box [.sl (.int .i64),.sl (.int .i64),.int .i64,.sl tC]),(1,.box [.nil,.nil,.int .i64,.bool]),(2,.box [.row 5,.sl tEn,.int .i64,.bool]),(3,.row tR),(5,.row tR)],6⟩
abbrev ZcM:=Zx1
def ZFI:StD ZhW→ZcM:=fun ((_,a,_,b,c,_),((d,e,f,g,_),(_,_,h,i,_),(_,j,k,l,_),m,(n,o,p,q,_),r,_))=>(a,b,c,d,e,f,g,h,i,j,k,l,m,n,o,p,q,r)
def ZGO:ZcM→StD ZhW:=fun (a,b,c,d,e,f,g,h,i,j,k,l,m,n,o,p,q,r)=>(((),a,(),b,c,()),((d,e,f,g,()),((),(),h,i,()),((),j,k,l,()),m,(n,o,p,q,()),r,()))
abbrev Zek:=Zx3
def ZWM:StD ZaE→Zek:=fun ((_,a,_),((b,c,d,e,_),(_,_,f,g,_),(_,h,i,j,_),k,l,_))=>(a,b,c,d,e,f,g,h,i,j,k,l)
def Zj0:Zek→StD ZaE:=fun (a,b,c,d,e,f,g,h,i,j,k,l)=>(((),a,()),((b,c,d,e,()),((),(),f,g,()),((),h,i,j,()),k,l,()))
def Zmb (s2:List Int) (s14 s15:Int) (b0 b0_1:List Int) (b0_2:Int) (b0_3:List C) (b1:Int) (b1_1:Bool) (b2:List En) (b2_1:Int) (b2_2:Bool) (b3:List Re) (b5 b5_1:List Int) (b5_2:Int) (b5_3:List C) (b6:List Re):Option (Zx1⊕Zx3):=bif decide (s15<s14) then Za (Ya ((b5,b5_1,b5_2,b5_3),s15,b2,())) none fun d22=>bif decide ((b6.length+[d22].length+1)*112≤lim) then some (.inl (s2,s14,IntKind.i64.wrap (s15+1),b0,b0_1,b0_2,b0_3,b1,b1_1,b2,b2_1,b2_2,b3,b5,b5_1,b5_2,b5_3,b6++[d22])) else none else some (.inr (s2,b0,b0_1,b0_2,b0_3,b1,b1_1,b2,b2_1,b2_2,b3,b6))
def ZbS:ZcM→Option (ZcM⊕Zek):=fun (a,b,c,d,e,f,g,h,i,j,k,l,m,n,o,p,q,r)=>Zmb a b c d e f g h i j k l m n o p q r
def Zhj (x:ZcM):Option Zek:=Zh ZbS Zl x
def ZhV:StS:=⟨[(0,.ptr 2 0),(2,.sl (.int .i64)),(4,.ptr 3 0),(14,.int .i64),(15,.int .i64)],[(0,.box [.sl (.int .i64),.sl (.int .i64),.int .i64,.sl tC]),(1,.box [.nil,.nil,.int .i64,.bool]),(2,.box [.row 4,.nil,.int .i64,.bool]),(3,.box [.sl (.int .i64),.sl (.int .i64),.int .i64,.sl tC]),(4,.row tR)],5⟩
def ZaD:StS:=⟨[(0,.ptr 2 0),(2,.sl (.int .i64))],[(0,.box [.sl (.int .i64),.sl (.int .i64),.int .i64,.sl tC]),(1,.box [.nil,.nil,.int .i64,.bool]),(2,.box [.row 3,.nil,.int .i64,.bool]),(3,.row tR)],4⟩
abbrev ZcL:=Zx2
def ZFH:StD ZhV→ZcL:=fun ((_,a,_,b,c,_),((d,e,f,g,_),(_,_,h,i,_),(_,_,j,k,_),(l,m,n,o,_),p,_))=>(a,b,c,d,e,f,g,h,i,j,k,l,m,n,o,p)
def ZGN:ZcL→StD ZhV:=fun (a,b,c,d,e,f,g,h,i,j,k,l,m,n,o,p)=>(((),a,(),b,c,()),((d,e,f,g,()),((),(),h,i,()),((),(),j,k,()),(l,m,n,o,()),p,()))
abbrev Zej:=Zx5
def ZWL:StD ZaD→Zej:=fun ((_,a,_),((b,c,d,e,_),(_,_,f,g,_),(_,_,h,i,_),j,_))=>(a,b,c,d,e,f,g,h,i,j)
def ZjZ:Zej→StD ZaD:=fun (a,b,c,d,e,f,g,h,i,j)=>(((),a,()),((b,c,d,e,()),((),(),f,g,()),((),(),h,i,()),j,()))
def ZGB (s2:List Int) (s14 s15:Int) (b0 b0_1:List Int) (b0_2:Int) (b0_3:List C) (b1:Int) (b1_1:Bool) (b2:Int) (b2_1:Bool) (b3 b3_1:List Int) (b3_2:Int) (b3_3:List C) (b4:List Re):Option (Zx2⊕Zx5):=bif decide (s15<s14) then Za (Ya ((b3,b3_1,b3_2,b3_3),s15,[],())) none fun d20=>bif decide ((b4.length+[d20].length+1)*112≤lim) then some (.inl (s2,s14,IntKind.i64.wrap (s15+1),b0,b0_1,b0_2,b0_3,b1,b1_1,b2,b2_1,b3,b3_1,b3_2,b3_3,b4++[d20])) else none else some (.inr (s2,b0,b0_1,b0_2,b0_3,b1,b1_1,b2,b2_1,b4))
def Zr4:ZcL→Option (ZcL⊕Zej):=fun (a,b,c,d,e,f,g,h,i,j,k,l,m,n,o,p)=>ZGB a b c d e f g h i j k l m n o p
def ZG4 (x:ZcL):Option Zej:=Zh Zr4 Zl x
def Zxu:Nat→Tm→Prog (Nat×Tm):=(varP 3 (fun T h=>(rdS ZhV T h).map ZFH) ZG4 (altE 2 ZaD ZjZ) (varP 5 (fun T h=>(rdS ZhW T h).map ZFI) Zhj (altE 2 ZaE Zj0) (fun _ _=>.fail)))
def Zoh:Lpc:=⟨44,0,58,(slP [(0,0,tR)] [(0,1)] [] (Zod 0) (fun base T=>.norm base (Zod 0) T (Zxu base))),by kernel_rfl,by kernel_rfl,(ZLJ (loopU Zq3 [] 40 1048576 8 (keep:=Zod) (q:=Zxu) (by kernel_rfl) (Zv (s:=ZhV) (un:=ZGN) (by rfl) (fun _=>rfl) (Zn (s:=ZaD) (un:=ZjZ) (flat:=ZWL) (by rfl) (fun _=>rfl)) (step:=Zr4) (fun _=>by kernel_rfl) (fun _ _ e=>⟨_,e⟩) (Zm 2 ZaD ZjZ) (Zv (s:=ZhW) (un:=ZGO) (by rfl) (fun _=>rfl) (Zn (s:=ZaE) (un:=Zj0) (flat:=ZWM) (by rfl) (fun _=>rfl)) (step:=ZbS) (fun _=>by kernel_rfl) (fun _ _ e=>⟨_,e⟩) (Zm 2 ZaE Zj0) (ZB.fail _ _)))))⟩
abbrev Z0S:=cxU Zq3 [Zoh] 40 1048576
def ZhU:StS:=⟨[(1,.ptr 0 0),(2,.ptr 1 0),(3,.ptr 2 0),(4,.sl (.int .i64)),(5,.bool)],[(0,.box [.sl (.int .i64),.sl (.int .i64),.int .i64,.sl tC]),(1,.box [.nil,.nil,.int .i64,.bool]),(2,.box [.row 3,.row 4,.int .i64,.bool]),(3,.row tR),(4,.row tEn)],5⟩
def ZaC:StS:=⟨[(2,.ptr 0 0),(3,.ptr 1 0)],[(0,.box [.nil,.nil,.int .i64,.bool]),(1,.box [.row 2,.row 3,.int .i64,.bool]),(2,.row tR),(3,.row tEn)],4⟩
abbrev ZcK:=Zx4
def ZFG:StD ZhU→ZcK:=fun ((_,_,_,a,b,_),((c,d,e,f,_),(_,_,g,h,_),(_,_,i,j,_),k,l,_))=>(a,b,c,d,e,f,g,h,i,j,k,l)
def ZGM:ZcK→StD ZhU:=fun (a,b,c,d,e,f,g,h,i,j,k,l)=>(((),(),(),a,b,()),((c,d,e,f,()),((),(),g,h,()),((),(),i,j,()),k,l,()))
abbrev Zei:=(Int×Bool×Int×Bool×(List Re)×(List En))
def ZWK:StD ZaC→Zei:=fun ((_,_,_),((_,_,a,b,_),(_,_,c,d,_),e,f,_))=>(a,b,c,d,e,f)
def ZjY:Zei→StD ZaC:=fun (a,b,c,d,e,f)=>(((),(),()),(((),(),a,b,()),((),(),c,d,()),e,f,()))
def Zgw (s4:List Int) (s5:Bool) (b0 b0_1:List Int) (b0_2:Int) (b0_3:List C) (b1:Int) (b1_1:Bool) (b2:Int) (b2_1:Bool) (b3:List Re) (b4:List En):Option (Zx4⊕(Int×Bool×Int×Bool×(List Re)×(List En))):=bif !s5 then bif decide (b2<20) then Za (Zhj (s4,(b0_3.length:Int),0,b0,b0_1,b0_2,b0_3,b1,b1_1,b4,IntKind.i64.wrap (b2+1),b2_1,b3,b0,b0_1,b0_2,b0_3,[])) none fun d16=>Za (Znw (d16.2.2.2.2.2.2.2.2.2.2.2,())) none fun d17=>Za (ZvW (d16.2.2.2.2.2.2.2.1,d17,())) none fun d18=>bif decide (d16.2.2.2.2.2.2.2.2.1>3) then Za (Zs4 (d16.2.2.2.2.2.2.2.1,d18,d16.1,())) none fun d19=>Za (Zp6 (d19,d16.2.2.2.2.2.2.2.1,())) none fun d20=>bif d20 then Za (Zha (d16.2.2.2.2.2.2.2.2.2.2.2,())) none fun d21=>some (.inl (s4,d20,d16.2.1,d16.2.2.1,d16.2.2.2.1,d16.2.2.2.2.1,d16.2.2.2.2.2.1,d16.2.2.2.2.2.2.1,d16.2.2.2.2.2.2.2.2.1,d21,d16.2.2.2.2.2.2.2.2.2.2.2,d19)) else some (.inl (s4,d20,d16.2.1,d16.2.2.1,d16.2.2.2.1,d16.2.2.2.2.1,d16.2.2.2.2.2.1,d16.2.2.2.2.2.2.1,d16.2.2.2.2.2.2.2.2.1,false,d16.2.2.2.2.2.2.2.2.2.2.2,d19)) else Za (Zp6 (d18,d16.2.2.2.2.2.2.2.1,())) none fun d19=>bif d19 then Za (Zha (d16.2.2.2.2.2.2.2.2.2.2.2,())) none fun d20=>some (.inl (s4,d19,d16.2.1,d16.2.2.1,d16.2.2.2.1,d16.2.2.2.2.1,d16.2.2.2.2.2.1,d16.2.2.2.2.2.2.1,d16.2.2.2.2.2.2.2.2.1,d20,d16.2.2.2.2.2.2.2.2.2.2.2,d18)) else some (.inl (s4,d19,d16.2.1,d16.2.2.1,d16.2.2.2.1,d16.2.2.2.2.1,d16.2.2.2.2.2.1,d16.2.2.2.2.2.2.1,d16.2.2.2.2.2.2.2.2.1,false,d16.2.2.2.2.2.2.2.2.2.2.2,d18)) else some (.inr (b1,b1_1,b2,b2_1,b3,b4))
 else some (.inr (b1,b1_1,b2,b2_1,b3,b4))
def HL:ZcK→Option (ZcK⊕Zei):=fun (a,b,c,d,e,f,g,h,i,j,k,l)=>Zgw a b c d e f g h i j k l
def Zhi (x:ZcK):Option Zei:=Zh HL Zl x
def Zxt:Nat→Tm→Prog (Nat×Tm):=(varP 0 (fun T h=>(rdS ZhU T h).map ZFG) Zhi (altE 2 ZaC ZjY) (fun _ _=>.fail))
def ZJD:Lpc:=⟨18,0,38,(ownP [(2,0,tR),(2,1,tEn),(2,0,tR),(2,1,tEn),(2,0,tR),(2,1,tEn),(2,0,tR),(2,1,tEn)] [] (Zoc 0) (fun base T=>.norm base (Zoc 0) T (Zxt base))),by kernel_rfl,by kernel_rfl,(Ja (loopU Zq3 [Zoh] 40 1048576 8 (keep:=Zoc) (q:=Zxt) (by kernel_rfl) (Zv (s:=ZhU) (un:=ZGM) (by rfl) (fun _=>rfl) (Zn (s:=ZaC) (un:=ZjY) (flat:=ZWK) (by rfl) (fun _=>rfl)) (step:=HL) (fun _=>by kernel_rfl) (fun _ _ e=>⟨_,e⟩) (Zm 2 ZaC ZjY) (ZB.fail _ _))))⟩
def Zfa (a0:U):Option RRe:=Za (Zlv (a0,())) none fun d5=>Za (Zhi (d5,false,a0.1,a0.2.1,a0.2.2.1,a0.2.2.2,0,false,0,false,[],[])) none fun d6=>some (d6.2.2.2.2.1,d6.2.2.2.2.2,d6.2.2.1,d6.2.2.2.1)
def QS (x:U×Unit):Option RRe:=Zfa x.1
def Zg3:=conP true ZQr (.dat tRR) QS
theorem Zlq:Zf Tryz.prog 18 Zg3:=Ze (calU Zq3 [Zoh,ZJD] 40 1048576 8 18) true (by rfl) (by rfl) (fun x r e=>(Zk _ _ _ _ _ _ _).trans ((show _=QS x by kernel_rfl).trans e)) (.inl rfl)
abbrev Zya:Type:=((List Int)×Int×(List Int)×(List Int)×Int×(List C)×Int×Bool×(List En)×Int×Bool×(List Re)×(List En))
abbrev Zyb:Type:=((List Int)×(List Int)×(List Int)×Int×(List C)×Int×Bool×(List En)×Int×Bool×(List Re)×(List En))
abbrev Zyc:Type:=((List Int)×Bool×(List Int)×(List Int)×Int×(List C)×Int×Bool×Int×Bool×(List Re)×(List En))
abbrev ZcR:=Zya
abbrev Zep:=Zyb
def Zmd (s4:List Int) (s7:Int) (b0 b0_1:List Int) (b0_2:Int) (b0_3:List C) (b1:Int) (b1_1:Bool) (b2:List En) (b2_1:Int) (b2_2:Bool) (b3:List Re) (b4:List En):Option (Zya⊕Zyb):=bif decide (s7<(b0_3.length:Int)) then Za (Zid ((b0,b0_1,b0_2,b0_3),s7,b2,())) none fun d18=>bif decide ((b3.length+[d18].length+1)*112≤lim) then Za (Kx (b4,d18.2.1,())) none fun d19=>some (.inl (s4,IntKind.i64.wrap (s7+1),b0,b0_1,b0_2,b0_3,b1,b1_1,b2,b2_1,b2_2,b3++[d18],d19)) else none else some (.inr (s4,b0,b0_1,b0_2,b0_3,b1,b1_1,b2,b2_1,b2_2,b3,b4))
def ZbU:ZcR→Option (ZcR⊕Zep):=fun (a,b,c,d,e,f,g,h,i,j,k,l,m)=>Zmd a b c d e f g h i j k l m
def Zhp (x:ZcR):Option Zep:=Zh ZbU Zl x
abbrev ZcP:=Zyc
abbrev Zen:=(Bool×Int×Bool×Int×Bool×(List Re)×(List En))
def Zgy (s4:List Int) (s5:Bool) (b0 b0_1:List Int) (b0_2:Int) (b0_3:List C) (b1:Int) (b1_1:Bool) (b2:Int) (b2_1:Bool) (b3:List Re) (b4:List En):Option (Zyc⊕(Bool×Int×Bool×Int×Bool×(List Re)×(List En))):=bif !s5 then bif decide (b2<20) then Za (Zhp (s4,0,b0,b0_1,b0_2,b0_3,b1,b1_1,b4,IntKind.i64.wrap (b2+1),b2_1,[],[])) none fun d17=>Za (Kx (d17.2.2.2.2.2.2.2.1,d17.2.2.2.2.2.2.2.2.2.2.2,())) none fun d18=>bif decide (d17.2.2.2.2.2.2.2.2.1>3) then Za (ZoQ (d17.2.2.2.2.2.2.2.1,d18,d17.1,())) none fun d19=>Za (WI (d19,d17.2.2.2.2.2.2.2.1,())) none fun d20=>some (.inl (d17.1,d20,d17.2.1,d17.2.2.1,d17.2.2.2.1,d17.2.2.2.2.1,d17.2.2.2.2.2.1,d17.2.2.2.2.2.2.1,d17.2.2.2.2.2.2.2.2.1,d17.2.2.2.2.2.2.2.2.2.1,d17.2.2.2.2.2.2.2.2.2.2.1,d19)) else Za (WI (d18,d17.2.2.2.2.2.2.2.1,())) none fun d19=>some (.inl (d17.1,d19,d17.2.1,d17.2.2.1,d17.2.2.2.1,d17.2.2.2.2.1,d17.2.2.2.2.2.1,d17.2.2.2.2.2.2.1,d17.2.2.2.2.2.2.2.2.1,d17.2.2.2.2.2.2.2.2.2.1,d17.2.2.2.2.2.2.2.2.2.2.1,d18)) else some (.inr (s5,b1,b1_1,b2,b2_1,b3,b4)) else some (.inr (s5,b1,b1_1,b2,b2_1,b3,b4))
def HN:ZcP→Option (ZcP⊕Zen):=fun (a,b,c,d,e,f,g,h,i,j,k,l)=>Zgy a b c d e f g h i j k l
def Zho (x:ZcP):Option Zen:=Zh HN Zl x
abbrev ZcS:=(Int×Int×Bool×Int×Bool×(List Re)×(List En))
abbrev Zeq:=(Int×Bool×Int×Bool×(List Re)×(List En))
def Zme (s10 b0:Int) (b0_1:Bool) (b1:Int) (b1_1:Bool) (b2:List Re) (b3:List En):Option ((Int×Int×Bool×Int×Bool×(List Re)×(List En))⊕(Int×Bool×Int×Bool×(List Re)×(List En))):=bif decide (s10<(b2.length:Int)) then bif b1_1 then bif decide (0≤s10) then Za b2[s10.toNat]? none fun d12=>Za b2[s10.toNat]? none fun d13=>some (.inl (IntKind.i64.wrap (s10+1),b0,b0_1,b1,d13.2.2.2.2.2,b2,b3)) else none else some (.inl (IntKind.i64.wrap (s10+1),b0,b0_1,b1,false,b2,b3)) else some (.inr (b0,b0_1,b1,b1_1,b2,b3))
def ZbV:ZcS→Option (ZcS⊕Zeq):=fun (a,b,c,d,e,f,g)=>Zme a b c d e f g
def Zhq (x:ZcS):Option Zeq:=Zh ZbV Zl x
def ZzK (a0:U):Option RRe:=Za (Zjk (a0,())) none fun d6=>Za (Zho (d6,false,a0.1,a0.2.1,a0.2.2.1,a0.2.2.2,0,false,0,false,[],[])) none fun d7=>Za (Zhq (0,d7.2.1,d7.2.2.1,d7.2.2.2.1,d7.1,d7.2.2.2.2.2)) none fun d8=>some (d8.2.2.2.2.1,d8.2.2.2.2.2,d8.2.2.1,d8.2.2.2.1)
section
open Go.Proofs
def sumC (r:List C):Nat:=(r.map fun c=>c.2.length).sum
theorem Zzj (c:C) (r:List C):sumC (c::r)=c.2.length+sumC r:=by simp [sumC]
theorem Z2o (U0 U1:List Int) (U2:Int) (U3:List C):∀ (l:List C) (i:Nat) (s:Int),(∀ c∈l,c.2.length≤60)→0≤s→s≤45→
  (Zp (fun i s d=>Qz 45 U0 U1 U2 U3 i s d) (fun s=>HK 45 U0 U1 U2 U3 s) i l s=some (.inl (U0,U1,U2,U3))∧s+(sumC l:Int)≤45) ∨
  Zp (fun i s d=>Qz 45 U0 U1 U2 U3 i s d) (fun s=>HK 45 U0 U1 U2 U3 s) i l s=some (.inr (true,U0,U1,U2,U3))
 | [],i,s,_,_,h=>.inl ⟨rfl,by simpa [sumC] using h⟩
 | d::r,i,s,hl,h0,h1=>by
  simp only [Zp]
  have hd:=hl d (by simp)
  have h:Qz 45 U0 U1 U2 U3 i s d=bif decide (IntKind.i64.wrap (s+(d.2.length:Int))>45) then some (.inr (.inr (true,U0,U1,U2,U3))) else some (.inl (IntKind.i64.wrap (s+(d.2.length:Int)))):=rfl
  have w:IntKind.i64.wrap (s+(d.2.length:Int))=s+(d.2.length:Int):=ZdN (by omega) (by omega)
  rw [h,w]
  by_cases q:s+(d.2.length:Int)>45
  ·rw [dT0 q];exact .inr rfl
  ·rw [dF0 q]
   rcases Z2o U0 U1 U2 U3 r (i+1) (s+(d.2.length:Int)) (fun c hc=>hl c (by simp [hc])) (by omega) (by omega) with k | k
   ·exact .inl ⟨k.1,by rw [Zzj];have:=k.2;omega⟩
   ·exact .inr k
theorem ZR8 (most:Int) (U0 U1:List Int) (U2:Int) (U3:List C):∀ (l:List C) (i:Nat) (s:Int),
  Zp (fun i s d=>Qz most U0 U1 U2 U3 i s d) (fun s=>HK most U0 U1 U2 U3 s) i l s=some (.inl (U0,U1,U2,U3)) ∨
  Zp (fun i s d=>Qz most U0 U1 U2 U3 i s d) (fun s=>HK most U0 U1 U2 U3 s) i l s=some (.inr (true,U0,U1,U2,U3))
 | [],i,s=>.inl rfl
 | d::r,i,s=>by
  simp only [Zp]
  have h:Qz most U0 U1 U2 U3 i s d=bif decide (IntKind.i64.wrap (s+(d.2.length:Int))>most) then some (.inr (.inr (true,U0,U1,U2,U3))) else some (.inl (IntKind.i64.wrap (s+(d.2.length:Int)))):=rfl
  rw [h]
  cases decide (IntKind.i64.wrap (s+(d.2.length:Int))>most)
  ·exact ZR8 most U0 U1 U2 U3 r (i+1) _
  ·exact .inr rfl
theorem ZzU (u:U) (hs:sizeU u):∃ b,Zta u 45=some b∧(b=false→unitOK u∧sumC u.2.2.2≤45):=by
 unfold Zta Zpm
 by_cases h1:(u.2.2.2.length:Int)>4
 ·rw [dT0 h1];exact ⟨_,rfl,fun k=>nomatch k⟩
 by_cases h2:(u.1.length:Int)>10
 ·rw [dF0 h1,dT0 h2];exact ⟨_,rfl,fun k=>nomatch k⟩
 by_cases h3:(u.2.1.length:Int)>10
 ·rw [dF0 h1,dF0 h2,dT0 h3];exact ⟨_,rfl,fun k=>nomatch k⟩
 rw [dF0 h1,dF0 h2,dF0 h3]
 simp only [cond_false]
 have q:=ZGd 45 u.1 u.2.1 u.2.2.1 u.2.2.2 0 hs.2.2.1
 have q2:ZcE (45,0,0,u)=_:=q
 rw [q2]
 unfold Zl3
 obtain ⟨b,hb,hk⟩:=ZPD u hs
 have hb2:ZtA (u.1,u.2.1,u.2.2.1,u.2.2.2)=some b:=hb
 cases b
 ·rcases ZR8 45 u.1 u.2.1 u.2.2.1 u.2.2.2 u.2.2.2 0 0 with h | h
  ·rw [h]
   simp only [Zb,Sum.elim_inl,hb2]
   exact ⟨_,rfl,fun k=>nomatch k⟩
  ·rw [h]
   exact ⟨true,rfl,fun k=>nomatch k⟩
 ·have hu:=hk rfl
  rcases Z2o u.1 u.2.1 u.2.2.1 u.2.2.2 u.2.2.2 0 0 (fun c hc=>(hu.ts c hc).n.2) (by decide) (by decide) with ⟨h,h'⟩ | h
  ·rw [h]
   simp only [Zb,Sum.elim_inl,hb2]
   exact ⟨_,rfl,fun _=>⟨hu,by omega⟩⟩
  ·rw [h]
   exact ⟨true,rfl,fun k=>nomatch k⟩
def thrR (u:U) (tab:List En) (i:Nat) (r:List C):List Re:=r.mapIdx fun j c=>resV u ((i+j:Nat):Int) tab (Zt u) c
def stoR (s:List En) (r:List Re):List En:=r.foldl (fun s x=>addT Zg s x.2.1) s
theorem ZxX (u:U) (tab:List En) (i:Nat) (c:C) (r:List C):thrR u tab i (c::r)=resV u (i:Int) tab (Zt u) c::thrR u tab (i+1) r:=by
 unfold thrR
 rw [List.mapIdx_cons]
 simp only [Nat.add_zero]
 congr 2
 funext j c
 rw [show i+(j+1)=i+1+j by omega]
theorem ZBU (u:U) (tab:List En) (i:Nat) (r:List C):(thrR u tab i r).length=r.length:=by simp [thrR]
section
variable {u:U} {tab:List En}
theorem Zwt (hu:unitOK u) (hl:tabOK tab) (hn:tab.length≤1000) {i:Nat} {c:C} (hc:u.2.2.2[i]? = some c):tabOK (resV u (i:Int) tab (Zt u) c).2.1∧(resV u (i:Int) tab (Zt u) c).2.1.length≤c.2.length∧Zki u (i:Int) tab=some (resV u (i:Int) tab (Zt u) c)∧ZlB u (i:Int) tab=some (resV u (i:Int) tab (Zt u) c):=by
 obtain ⟨r1,r2,v,g⟩:=ZnL (t:=(i:Int)) hu (by omega) hl hn (by rw [tN0];exact hc)
 exact ⟨g.k,g.a,r1,r2⟩
theorem ZT7 (hu:unitOK u) (hl:tabOK tab) (hn:tab.length≤1000):∀ (r:List C) (i:Nat) (s:List En),u.2.2.2.drop i=r→tabOK s→tabOK (stoR s (thrR u tab i r))∧(stoR s (thrR u tab i r)).length≤s.length+sumC r
 | [],i,s,hd,hs=>⟨hs,by simp [stoR,thrR,sumC]⟩
 | c::r,i,s,hd,hs=>by
  have hc:u.2.2.2[i]? = some c:=by
   have:=congrArg (fun q=>q[0]?) hd
   simpa using this
  obtain ⟨h1,h2,_,_⟩:=Zwt hu hl hn hc
  have ih:=ZT7 hu hl hn r (i+1) (addT Zg s (resV u (i:Int) tab (Zt u) c).2.1) (by rw [← List.drop_drop,hd];rfl) (Zfk Zcb hs h1.a)
  have ln:=Zlz Zg (resV u (i:Int) tab (Zt u) c).2.1 s
  rw [ZxX,Zzj]
  exact ⟨ih.1,by have:=ih.2;show (stoR (addT Zg s (resV u (i:Int) tab (Zt u) c).2.1) (thrR u tab (i+1) r)).length≤_;omega⟩
theorem Z6e (hu:unitOK u) (hl:tabOK tab) (hn:tab.length≤1000) {s2:List Int} {b1:Int} {b1_1:Bool} {x:Int} {y:Bool} {b3:List Re} :
  Zhj (s2,(u.2.2.2.length:Int),0,u.1,u.2.1,u.2.2.1,u.2.2.2,b1,b1_1,tab,x,y,b3,u.1,u.2.1,u.2.2.1,u.2.2.2,[])=some (s2,u.1,u.2.1,u.2.2.1,u.2.2.2,b1,b1_1,tab,x,y,b3,thrR u tab 0 u.2.2.2):=by
 have ut:=hu.t
 have go:∀ (r:List C) (i:Nat) (s:List Re) (k:Nat),u.2.2.2.drop i=r→i+r.length=u.2.2.2.length→s.length≤i→
   Zh ZbS (k+r.length+1) (s2,(u.2.2.2.length:Int),(i:Int),u.1,u.2.1,u.2.2.1,u.2.2.2,b1,b1_1,tab,x,y,b3,u.1,u.2.1,u.2.2.1,u.2.2.2,s) =
    some (s2,u.1,u.2.1,u.2.2.1,u.2.2.2,b1,b1_1,tab,x,y,b3,s++thrR u tab i r):=by
  intro r
  induction r with
  | nil=>
   intro i s k hd hi hs
   have e:decide ((i:Int)<(u.2.2.2.length:Int))=false:=dF0 (by simp at hi;omega)
   simp only [Zh,ZbS,Zmb,e,cond_false]
   simp [thrR]
  | cons c r ih=>
   intro i s k hd hi hs
   rw [List.length_cons] at hi ⊢
   have hc:u.2.2.2[i]? = some c:=by
    have:=congrArg (fun q=>q[0]?) hd
    simpa using this
   have e:decide ((i:Int)<(u.2.2.2.length:Int))=true:=dT0 (by omega)
   have w:=Zq (i:=i) (n:=u.2.2.2.length) (by omega) (by omega)
   have f:Zki (u.1,u.2.1,u.2.2.1,u.2.2.2) (i:Int) tab=_:=(Zwt hu hl hn hc).2.2.1
   have lm:decide ((s.length+(0+1)+1)*112≤lim)=true:=dT0 (by unfold lim;omega)
   rw [show k+(r.length+1)+1=(k+r.length+1)+1 by omega,Zh,ZxX]
   simp only [ZbS,Zmb,e,cond_true,Ya,f,Zb,List.length_cons,List.length_nil,lm,w]
   have:=ih (i+1) (s++[resV u (i:Int) tab (Zt u) c]) k (by rw [← List.drop_drop,hd];rfl) (by omega) (by rw [List.length_append];simp;omega)
   rw [List.append_assoc] at this
   exact this
 unfold Zhj
 have:=go u.2.2.2 0 [] (Zl - u.2.2.2.length - 1) rfl (by simp) (by simp)
 rw [show Zl - u.2.2.2.length - 1+u.2.2.2.length+1=Zl by unfold Zl;omega,List.nil_append] at this
 exact this
theorem Z6i (hu:unitOK u) (hl:tabOK tab) (hn:tab.length≤1000) (h45:sumC u.2.2.2≤45) {s4:List Int} {b1:Int} {b1_1:Bool} {x:Int} {y:Bool} :
  Zhp (s4,0,u.1,u.2.1,u.2.2.1,u.2.2.2,b1,b1_1,tab,x,y,[],[])=some (s4,u.1,u.2.1,u.2.2.1,u.2.2.2,b1,b1_1,tab,x,y,thrR u tab 0 u.2.2.2,stoR [] (thrR u tab 0 u.2.2.2)):=by
 have ut:=hu.t
 have go:∀ (r:List C) (i:Nat) (s:List Re) (q:List En) (k:Nat),u.2.2.2.drop i=r→i+r.length=u.2.2.2.length→s.length≤i→tabOK q→q.length+sumC r≤45→
   Zh ZbU (k+r.length+1) (s4,(i:Int),u.1,u.2.1,u.2.2.1,u.2.2.2,b1,b1_1,tab,x,y,s,q) =
    some (s4,u.1,u.2.1,u.2.2.1,u.2.2.2,b1,b1_1,tab,x,y,s++thrR u tab i r,stoR q (thrR u tab i r)):=by
  intro r
  induction r with
  | nil=>
   intro i s q k hd hi hs _ _
   have e:decide ((i:Int)<(u.2.2.2.length:Int))=false:=dF0 (by simp at hi;omega)
   simp only [Zh,ZbU,Zmd,e,cond_false]
   simp [thrR,stoR]
  | cons c r ih=>
   intro i s q k hd hi hs hq hm
   rw [List.length_cons] at hi ⊢
   have hc:u.2.2.2[i]? = some c:=by
    have:=congrArg (fun q=>q[0]?) hd
    simpa using this
   have e:decide ((i:Int)<(u.2.2.2.length:Int))=true:=dT0 (by omega)
   have w:=Zq (i:=i) (n:=u.2.2.2.length) (by omega) (by omega)
   obtain ⟨k1,k2,_,k4⟩:=Zwt hu hl hn hc
   have f:ZlB (u.1,u.2.1,u.2.2.1,u.2.2.2) (i:Int) tab=_:=k4
   have lm:decide ((s.length+(0+1)+1)*112≤lim)=true:=dT0 (by unfold lim;omega)
   rw [Zzj] at hm
   have add:Zcp q (resV u (i:Int) tab (Zt u) c).2.1=some (addT Zg q (resV u (i:Int) tab (Zt u) c).2.1):=by rw [Zne _ _ (by omega),Zwy hq.e k1.a]
   have ln:=Zlz Zg (resV u (i:Int) tab (Zt u) c).2.1 q
   rw [show k+(r.length+1)+1=(k+r.length+1)+1 by omega,Zh,ZxX]
   simp only [ZbU,Zmd,e,cond_true,Zid,f,Zb,List.length_cons,List.length_nil,lm,Kx,add,w]
   have:=ih (i+1) (s++[resV u (i:Int) tab (Zt u) c]) (addT Zg q (resV u (i:Int) tab (Zt u) c).2.1) k (by rw [← List.drop_drop,hd];rfl) (by omega) (by rw [List.length_append];simp;omega) (Zfk Zcb hq k1.a) (by omega)
   rw [List.append_assoc] at this
   exact this
 unfold Zhp
 have:=go u.2.2.2 0 [] [] (Zl - u.2.2.2.length - 1) rfl (by simp) (by simp) Za5 (by simpa using h45)
 rw [show Zl - u.2.2.2.length - 1+u.2.2.2.length+1=Zl by unfold Zl;omega,List.nil_append] at this
 exact this
theorem Z1J (hu:unitOK u) (hl:tabOK tab) (hn:tab.length≤1000) (h45:sumC u.2.2.2≤45):Zsx (thrR u tab 0 u.2.2.2)=some (stoR [] (thrR u tab 0 u.2.2.2)):=by
 have ut:=hu.t
 have tl:=ZBU u tab 0 u.2.2.2
 unfold Zsx
 rw [ZzY _ [] (by omega)]
 unfold Zim
 generalize hL:thrR u tab 0 u.2.2.2=L at *
 have go:∀ (r:List C) (i j:Nat) (s:List En),u.2.2.2.drop i=r→tabOK s→s.length+sumC r≤45→Zp (fun i s d=>HT L i s d) (fun s=>Zii L s) j (thrR u tab i r) s=some (stoR s (thrR u tab i r)):=by
  intro r
  induction r with
  | nil=>exact fun i j s _ _ _=>rfl
  | cons c r ih=>
   intro i j s hd hs hm
   have hc:u.2.2.2[i]? = some c:=by
    have:=congrArg (fun q=>q[0]?) hd
    simpa using this
   obtain ⟨k1,k2,_,_⟩:=Zwt hu hl hn hc
   rw [Zzj] at hm
   have ln:=Zlz Zg (resV u (i:Int) tab (Zt u) c).2.1 s
   rw [ZxX,Qq (s':=addT Zg s (resV u (i:Int) tab (Zt u) c).2.1) (by unfold HT;simp only [Zhb,ZIe _ _ hs.srt (show s.length+(resV u (i:Int) tab (Zt u) c).2.1.length≤1000000000 by omega),Zb])]
   exact ih (i+1) (j+1) _ (by rw [← List.drop_drop,hd];rfl) (Zfk Zcb hs k1.a) (by omega)
 have:=go u.2.2.2 0 0 [] rfl Za5 (by simpa using h45)
 rw [hL] at this
 rw [this]
 rfl
theorem ZZ2 (l:List Re) (h:l.length≤1000):Zqw l=some (l.all fun r=>r.2.2.2.2.2):=by
 unfold Zqw
 rw [Zyn l () (by omega)]
 unfold ZgF
 rw [Vo (p:=fun _ r=>r.2.2.2.2.2) (o:=.inr false) l 0 fun j d hd=>?_,Zpn]
 ·cases l.all fun r=>r.2.2.2.2.2<;>rfl
 ·unfold Zbc
  cases d.2.2.2.2.2<;>rfl
end
end
section
open Go.Proofs
theorem ZYk {a b:List En} (ha:tabOK a) (hb:tabOK b):addT Zg a (addT Zg a b)=addT Zg a b:=by
 have j:=Zfk Zcb ha hb.a
 refine Zwu (ZlA ha.srt) (ZlA ha.srt) fun k=>?_
 rw [Zg2 k j.srt j.e ha.srt,Zg2 k hb.srt hb.e ha.srt]
 cases hu:tget a k with
 | none=>cases tget b k<;>rfl
 | some u=>
  have ou:=ZqB ha.e hu
  cases hv:tget b k with
  | none=>simp only [bothO,optV];rw [ZDa ou.2 ou.2 (ZdP u)]
  | some v=>
   have ov:=ZqB hb.e hv
   simp only [bothO,optV]
   rw [Zfb u (Zg u v),ZDa (by rw [ZDb,ou.2];rfl) ou.2 (ZSW u v)]
def nxtT (u:U) (tab:List En) (r:Int):List En:=
 if r>3 then addT (widF (Zt u)) tab (addT Zg tab (stoR [] (thrR u tab 0 u.2.2.2))) else addT Zg tab (stoR [] (thrR u tab 0 u.2.2.2))
def allD (l:List Re):Bool:=l.all fun r=>r.2.2.2.2.2
def outL (u:U):Nat→List Re→List En→Int→Bool→List Re×List En×Int×Bool
 | 0,R,tab,r,d=>(R,tab,r,d)
 | n+1,R,tab,r,d=>bif d then (R,tab,r,d) else outL u n (thrR u tab 0 u.2.2.2) (nxtT u tab (r+1)) (r+1) (decide (nxtT u tab (r+1)=tab))
section
variable {u:U} {tab:List En}
theorem ZXo (hu:unitOK u) (h45:sumC u.2.2.2≤45) {r:Int} (h:TInv u r tab) (h0:0≤r) (hr:r≤20):TInv u (r+1) (nxtT u tab (r+1))∧tabOK (stoR [] (thrR u tab 0 u.2.2.2))∧(stoR [] (thrR u tab 0 u.2.2.2)).length≤45∧tabOK (addT Zg tab (stoR [] (thrR u tab 0 u.2.2.2))):=by
 have hn:=h.n
 have hN:tab.length≤1000:=by omega
 obtain ⟨s1,s2⟩:=ZT7 hu h.k hN u.2.2.2 0 [] rfl Za5
 have s2:(stoR [] (thrR u tab 0 u.2.2.2)).length≤45:=by simp at s2;omega
 have j1:=Zfk Zcb h.k s1.a
 have l1:=Zlz Zg (stoR [] (thrR u tab 0 u.2.2.2)) tab
 have l2:=Zlz (widF (Zt u)) (addT Zg tab (stoR [] (thrR u tab 0 u.2.2.2))) tab
 have w1:=Zfk (Z3e (Zt u)) h.k j1.a
 refine ⟨⟨?_,?_⟩,s1,s2,j1⟩
 ·unfold nxtT
  split
  ·exact w1
  ·exact j1
 ·unfold nxtT
  split
  ·have:(addT (widF (Zt u)) tab (addT Zg tab (stoR [] (thrR u tab 0 u.2.2.2)))).length≤(addT Zg tab (stoR [] (thrR u tab 0 u.2.2.2))).length:=by
    rw [← ZUc h.k j1,List.length_map]
    have k1:addT rJoin tab (addT Zg tab (stoR [] (thrR u tab 0 u.2.2.2)))=addT Zg tab (addT Zg tab (stoR [] (thrR u tab 0 u.2.2.2))):=(Zwy h.k.e j1.a).symm
    rw [k1]
    have k2:addT Zg tab (addT Zg tab (stoR [] (thrR u tab 0 u.2.2.2)))=addT Zg tab (stoR [] (thrR u tab 0 u.2.2.2)):=ZYk h.k s1
    rw [k2]
    exact Nat.le_refl _
   omega
  ·omega
theorem ZXq (hu:unitOK u) (h45:sumC u.2.2.2≤45):∀ (n:Nat) (R:List Re) (tab:List En) (r:Int) (d:Bool) (k:Nat),0≤r→r+n=20→TInv u r tab→
  Zh HL (k+n+1) (Zt u,d,u.1,u.2.1,u.2.2.1,u.2.2.2,0,false,r,d&&allD R,R,tab) =
   some (0,false,(outL u n R tab r d).2.2.1,(outL u n R tab r d).2.2.2&&allD (outL u n R tab r d).1,(outL u n R tab r d).1,(outL u n R tab r d).2.1) ∧
  Zh HN (k+n+1) (Zt u,d,u.1,u.2.1,u.2.2.1,u.2.2.2,0,false,r,false,R,tab) =
   some ((outL u n R tab r d).2.2.2,0,false,(outL u n R tab r d).2.2.1,false,(outL u n R tab r d).1,(outL u n R tab r d).2.1) ∧
  TInv u 20 (outL u n R tab r d).2.1
 | 0,R,tab,r,d,k,h0,h1,v=>by
  have e:decide (r<20)=false:=dF0 (by omega)
  refine ⟨?_,?_,⟨v.k,by have:=v.n;show (tab.length:Int)≤_;omega⟩⟩
  ·simp only [Zh,HL,Zgw,e]
   cases d<;>rfl
  ·simp only [Zh,HN,Zgy,e]
   cases d<;>rfl
 | n+1,R,tab,r,true,k,h0,h1,v=>by
  refine ⟨?_,?_,⟨v.k,by have:=v.n;show (tab.length:Int)≤_;omega⟩⟩
  ·simp only [Zh,HL,Zgw,Bool.not_true,cond_false];rfl
  ·simp only [Zh,HN,Zgy,Bool.not_true,cond_false];rfl
 | n+1,R,tab,r,false,k,h0,h1,v=>by
  have e:decide (r<20)=true:=dT0 (by omega)
  have w:IntKind.i64.wrap (r+1)=r+1:=ZdN (by omega) (by omega)
  have hst:(Zt u).length<9223372036854775807:=by have:=ZP2 u hu;omega
  obtain ⟨v',s1,s2,j1⟩:=ZXo hu h45 v h0 (by omega)
  have hn:=v.n
  have hn':=v'.n
  have hN:tab.length≤1000:=by omega
  have o1:=Z6e (s2:=Zt u) (b1:=0) (b1_1:=false) (x:=r+1) (y:=(false&&allD R)) (b3:=R) hu v.k hN
  have o2:=Z6i (s4:=Zt u) (b1:=0) (b1_1:=false) (x:=r+1) (y:=false) hu v.k hN h45
  have st:=Z1J hu v.k hN h45
  have tl:=ZBU u tab 0 u.2.2.2
  have ut:=hu.t
  have ar:=ZZ2 (thrR u tab 0 u.2.2.2) (by omega)
  have l1:=Zlz Zg (stoR [] (thrR u tab 0 u.2.2.2)) tab
  have jn:=ZYr tab (stoR [] (thrR u tab 0 u.2.2.2)) v.k.srt (by omega)
  have wd:=ZVC tab (addT Zg tab (stoR [] (thrR u tab 0 u.2.2.2))) (Zt u) hst v.k.srt (by omega)
  have ad:Zcp tab (stoR [] (thrR u tab 0 u.2.2.2))=some (addT Zg tab (stoR [] (thrR u tab 0 u.2.2.2))):=by rw [Zne _ _ (by omega),Zwy v.k.e s1.a]
  have wr:ZoZ tab (addT Zg tab (stoR [] (thrR u tab 0 u.2.2.2))) (Zt u)=some (addT (widF (Zt u)) tab (addT Zg tab (stoR [] (thrR u tab 0 u.2.2.2)))):=by
   rw [ZQL _ _ _ hst v.k.srt j1.srt (by omega),ZUc v.k j1]
  have ih:=ZXq hu h45 n (thrR u tab 0 u.2.2.2) (nxtT u tab (r+1)) (r+1) (decide (nxtT u tab (r+1)=tab)) k (by omega) (by omega) v'
  have sm:=ZYs (nxtT u tab (r+1)) tab (by omega)
  have sr:=Zxg (nxtT u tab (r+1)) tab (by omega)
  refine ⟨?_,?_,ih.2.2⟩
  ·refine Eq.trans ?_ ih.1
   rw [show k+(n+1)+1=(k+n+1)+1 by omega,Zh]
   simp only [HL,Zgw,e,w,Bool.not_false,cond_true,o1,Zb,Znw,st,ZvW,jn,Zs4,wd,Zp6,Zha,ar]
   unfold nxtT at sm ⊢
   by_cases q:r+1>3
   ·rw [if_pos q] at sm ⊢
    simp only [dT0 q,cond_true,sm,Zb]
    cases decide (addT (widF (Zt u)) tab (addT Zg tab (stoR [] (thrR u tab 0 u.2.2.2)))=tab)<;>rfl
   ·rw [if_neg q] at sm ⊢
    simp only [dF0 q,cond_false,sm,Zb]
    cases decide (addT Zg tab (stoR [] (thrR u tab 0 u.2.2.2))=tab)<;>rfl
  ·refine Eq.trans ?_ ih.2.1
   rw [show k+(n+1)+1=(k+n+1)+1 by omega,Zh]
   simp only [HN,Zgy,e,w,Bool.not_false,cond_true,o2,Zb,Kx,ad,ZoQ,wr,WI]
   unfold nxtT at sr ⊢
   by_cases q:r+1>3
   ·rw [if_pos q] at sr ⊢
    simp only [dT0 q,cond_true,sr,Zb]
   ·rw [if_neg q] at sr ⊢
    simp only [dF0 q,cond_false,sr,Zb]
theorem Z1S (tab:List En) (r:Int) (R:List Re) (hR:R.length≤1000) (d:Bool):Zhq (0,0,false,r,d,R,tab)=some (0,false,r,d&&allD R,R,tab):=by
 have go:∀ (q:List Re) (i:Nat) (s:Bool) (k:Nat),R.drop i=q→i+q.length=R.length→
   Zh ZbV (k+q.length+1) ((i:Int),0,false,r,s,R,tab)=some (0,false,r,s&&allD q,R,tab):=by
  intro q
  induction q with
  | nil=>
   intro i s k hd hi
   have e:decide ((i:Int)<(R.length:Int))=false:=dF0 (by simp at hi;omega)
   simp only [Zh,ZbV,Zme,e,cond_false]
   simp [allD]
  | cons c q ih=>
   intro i s k hd hi
   rw [List.length_cons] at hi ⊢
   have hc:R[i]? = some c:=by
    have:=congrArg (fun q=>q[0]?) hd
    simpa using this
   have e:decide ((i:Int)<(R.length:Int))=true:=dT0 (by omega)
   have e0:decide (0≤(i:Int))=true:=dT0 (by omega)
   have w:=Zq (i:=i) (n:=R.length) (by omega) (by omega)
   rw [show k+(q.length+1)+1=(k+q.length+1)+1 by omega,Zh]
   simp only [ZbV,Zme,e,e0,cond_true,tN0,hc,Zb,w]
   cases s
   ·exact ih (i+1) false k (by rw [← List.drop_drop,hd];rfl) (by omega)
   ·have:=ih (i+1) c.2.2.2.2.2 k (by rw [← List.drop_drop,hd];rfl) (by omega)
    rw [show (true&&allD (c::q))=(c.2.2.2.2.2&&allD q) from rfl]
    exact this
 unfold Zhq
 have:=go R 0 d (Zl - R.length - 1) rfl (by simp)
 rw [show Zl - R.length - 1+R.length+1=Zl by unfold Zl;omega] at this
 exact this
def outZ (u:U):List Re×List En×Int×Bool:=outL u 20 [] [] 0 false
def outVV (u:U):RRe:=((outZ u).1,(outZ u).2.1,(outZ u).2.2.1,(outZ u).2.2.2&&allD (outZ u).1)
theorem ZTh:∀ (n:Nat) (R:List Re) (tab:List En) (r:Int) (d:Bool),R.length≤u.2.2.2.length→(outL u n R tab r d).1.length≤u.2.2.2.length
 | 0,R,tab,r,d,h=>h
 | n+1,R,tab,r,true,h=>h
 | n+1,R,tab,r,false,h=>ZTh n _ _ _ _ (by rw [ZBU];exact Nat.le_refl _)
theorem Zxi (hu:unitOK u) (h45:sumC u.2.2.2≤45):Zfa u=some (outVV u)∧ZzK u=some (outVV u)∧TInv u 20 (outZ u).2.1:=by
 have q:=ZXq hu h45 20 [] [] 0 false 18446744073709551595 (by decide) (by decide) ⟨Za5,by simp⟩
 have hF:Zl=18446744073709551595+20+1:=rfl
 have ut:=hu.t
 have ol:=ZTh (u:=u) 20 [] [] 0 false (by simp)
 have rd:=Z1S (outZ u).2.1 (outZ u).2.2.1 (outZ u).1 (by show (outL u 20 [] [] 0 false).1.length≤_;omega) (outZ u).2.2.2
 refine ⟨?_,?_,q.2.2⟩
 ·unfold Zfa
  have q1:Zhi (Zt u,false,u.1,u.2.1,u.2.2.1,u.2.2.2,0,false,0,false,[],[])=some (0,false,(outZ u).2.2.1,(outZ u).2.2.2&&allD (outZ u).1,(outZ u).1,(outZ u).2.1):=by
   unfold Zhi
   rw [hF]
   exact q.1
  simp only [Zlv,ZKt u hu,Zb,q1]
  rfl
 ·unfold ZzK
  have q1:Zho (Zt u,false,u.1,u.2.1,u.2.2.1,u.2.2.2,0,false,0,false,[],[])=some ((outZ u).2.2.2,0,false,(outZ u).2.2.1,false,(outZ u).1,(outZ u).2.1):=by
   unfold Zho
   rw [hF]
   exact q.2.1
  simp only [Zjk,ZId u hu,Zb,q1,rd]
  rfl
end
end
def ZyF:List Sh:=[]
def ZBO:List Con:=[⟨18,Zg3,Zlq⟩]
def Vm:Option Bool:=Za (QS (([],[],0,[(0,[(14,0,0,0,0,0,0,0,0)])]),())) none fun d1=>bif d1.2.2.2 then bif d1.2.2.1==1 then bif (List.length d1.1:Int)==1 then some ((List.length d1.2.1:Int)==0) else some false else some false else some false
theorem ZMT:evGX (cxU ZBO [] 40 1048576) keeps 8 21 ZyF (.dat .bool) (():Unit)=Vm:=by kernel_rfl
def ZQ (x:Unit):Option Bool:=Vm
def ZhD:=conP true ZyF (.dat .bool) ZQ
theorem ZmD:Zf Tryz.prog 21 ZhD:=Ze (calU ZBO [] 40 1048576 8 21) true (by rfl) (by rfl) (fun x r e=>(Zk _ _ _ _ _ _ _).trans ((ZMT ).trans e)) (.inl rfl)
def u16:U:=([],[],0,[(0,[(14,0,0,0,0,0,0,0,0)])])
theorem Z4B:unitOK u16∧sumC u16.2.2.2≤45:=by
 obtain ⟨b,h1,h2⟩:=ZzU u16 ⟨by decide,by decide,by decide,fun c hc=>by
  rw [List.mem_singleton.1 hc];decide⟩
 have h3:Zta u16 45=some false:=by kernel_rfl
 rw [h3] at h1
 exact h2 (Option.some.inj h1).symm
theorem ZsE:Vm=some true:=by
 have h:=(Zxi Z4B.1 Z4B.2).1
 unfold Vm
 show Za (Zfa u16) none _=_
 rw [h]
 kernel_rfl
section
open Go.Proofs
def actQ (u:U) (c:C) (a:A):Bool:=
 decide (1≤a.1)&&(decide (a.1≤14)&&((a.1==1||a.2.2.2.2.2.1==0)&&(inB a.2.2.2.2.2.2.2.1 (c.2.length:Int)&&(inB a.2.2.2.2.2.2.2.2 (c.2.length:Int)&&((a.1==11||a.2.2.2.2.2.2.2.2==0)&&((a.1 !=4||(decide (1≤a.2.2.2.2.2.2.1)&&decide (a.2.2.2.2.2.2.1≤5)))&&((a.1 !=11||(decide (1≤a.2.2.2.2.2.2.1)&&decide (a.2.2.2.2.2.2.1≤6))) &&
  ((a.1==4||(a.1==11||a.2.2.2.2.2.2.1==0))&&(hasV a.1 1 a.2.1 c.1&&(hasV a.1 2 a.2.2.1 c.1&&(hasV a.1 3 a.2.2.2.1 c.1&&hasV a.1 4 a.2.2.2.2.1 (gBd u a.1))))))))))))
theorem Z2A {u:U} {c:C} {a:A} (h:actQ u c a=true) (hf:fitB a.2.2.2.2.2.1=true):actOK u c a:=by
 unfold actQ at h
 simp only [Bool.and_eq_true,Bool.or_eq_true,decide_eq_true_eq,beq_iff_eq,bne_iff_ne,ne_eq,inB] at h
 obtain ⟨h1,h2,h3,h4,h5,h6,h7,h8,h9,h10,h11,h12,h13⟩:=h
 exact ⟨h1,h2,hf,fun k=>h3.resolve_left k,h4,h5,fun k=>h6.resolve_left k,fun k=>h7.resolve_left (fun q=>q k),fun k=>h8.resolve_left (fun q=>q k),fun k k'=>(h9.resolve_left k).resolve_left k',h10,h11,h12,h13⟩
def codeQ (u:U) (c:C):Bool:=decide (0≤c.1)&&(decide (c.1≤40)&&(decide (1≤c.2.length)&&(decide (c.2.length≤60)&&((c.2[c.2.length - 1]?).elim false (fun a=>a.1==14)&&c.2.all (actQ u c)))))
def unitQ (u:U):Bool:=decide (u.1.length≤6)&&(decide (u.2.1.length≤3)&&(decide (0≤u.2.2.1)&&(decide (u.2.2.1≤6)&&(decide (1≤u.2.2.2.length)&&(decide (u.2.2.2.length≤4)&&(u.2.1.all (fun n=>decide (1≤n)&&decide (n≤16))&&u.2.2.2.all (codeQ u)))))))
theorem ZUa {u:U} (h:unitQ u=true) (hg:∀ n∈u.1,fitB n=true) (hf:∀ c∈u.2.2.2,∀ a∈c.2,fitB a.2.2.2.2.2.1=true):unitOK u:=by
 unfold unitQ at h
 simp only [Bool.and_eq_true,decide_eq_true_eq,List.all_eq_true] at h
 obtain ⟨h1,h2,h3,h4,h5,h6,h7,h8⟩:=h
 refine ⟨h1,h2,⟨h3,h4⟩,⟨h5,h6⟩,hg,h7,fun c hc=>?_⟩
 have k:=h8 c hc
 unfold codeQ at k
 simp only [Bool.and_eq_true,decide_eq_true_eq,List.all_eq_true] at k
 obtain ⟨k1,k2,k3,k4,k5,k6⟩:=k
 refine ⟨⟨k1,k2⟩,⟨k3,k4⟩,?_,fun a ha=>Z2A (k6 a ha) (hf c hc a ha)⟩
 cases q:c.2[c.2.length - 1]? with
 | none=>rw [q] at k5;cases k5
 | some a=>rw [q] at k5;exact ⟨a,rfl,by simpa using k5⟩
def gatS (u:U) (t:Int) (l:List En) (es:List E) (i:Nat) (s:Ga) (d:A):Ga:=gatN t i s (oV u t (i:Int) ((es[i]?).getD offE) l d)
section
variable {u:U} {t:Int} {l:List En} {c:C}
theorem ZW5 (hu:unitOK u) (ht:0≤t) (hl:tabOK l) (hn:l.length≤1000) (hc:u.2.2.2[t.toNat]? = some c) {es:List E} {ns:List Int} (v:Inv u t c.2.length es ns):∀ (r:List A) (i:Nat) (s:Ga),c.2.drop i=r→
  gatV u t l es i r s=ZK (gatS u t l es) i r s
 | [],i,s,hd=>rfl
 | d::r,i,s,hd=>by
  have e:c.2[i]? = some d:=by
   have:=congrArg (fun q=>q[0]?) hd
   simpa using this
  have hi:=(List.getElem?_eq_some_iff.1 e).1
  have hie:i<es.length:=by rw [v.le];exact hi
  have ge:es[i]? = some es[i]:=List.getElem?_eq_getElem hie
  have hV:gatV u t l es i (d::r) s=gatV u t l es (i+1) r (gatN t i s (outV u t i ((es[i]?).getD offE) l)):=rfl
  rw [hV,ZK]
  unfold gatS
  rw [ge,Option.getD_some,ZOr hu ht hl hn hc (v.ok _ (List.getElem_mem hie)).env e]
  exact ZW5 hu ht hl hn hc v r (i+1) _ (by rw [← List.drop_drop,hd];rfl)
end
end
theorem Z1d {S:List En} (h:tabOK S):addT Zg [] S=S:=by
 refine Zwu (ZlA Za5.srt) h.srt fun k=>?_
 rw [Zg2 k h.srt h.e Za5.srt]
 cases tget S k<;>rfl
theorem Z1e {S:List En} (h:tabOK S):addT Zg S S=S:=by
 refine Zwu (ZlA h.srt) h.srt fun k=>?_
 rw [Zg2 k h.srt h.e h.srt]
 cases hu:tget S k with
 | none=>rfl
 | some u=>
  have ou:=ZqB h.e hu
  simp only [bothO,optV]
  rw [ZDa ou.2 ou.2 (ZdP u)]
theorem ZXp {u:U} {S:List En} (hS:tabOK S) (h0:S≠[]) (h1:stoR [] (thrR u [] 0 u.2.2.2)=S) (h2:stoR [] (thrR u S 0 u.2.2.2)=S):outZ u=(thrR u S 0 u.2.2.2,S,2,true):=by
 have n1:nxtT u [] (0+1)=S:=by unfold nxtT;rw [if_neg (by decide),h1,Z1d hS]
 have n2:nxtT u S (0+1+1)=S:=by unfold nxtT;rw [if_neg (by decide),h2,Z1e hS]
 show outL u (18+1) (thrR u [] 0 u.2.2.2) (nxtT u [] (0+1)) (0+1) (decide (nxtT u [] (0+1)=[]))=_
 rw [n1,dF0 h0]
 show outL u 18 (thrR u S 0 u.2.2.2) (nxtT u S (0+1+1)) (0+1+1) (decide (nxtT u S (0+1+1)=S))=_
 rw [n2,dT0 rfl]
 rfl
theorem ZNz (e:En) (h:Zd (vl e)=false):addT Zg [] [e]=[e]:=by
 show stpT Zg [] e=[e]
 unfold stpT
 rw [h];rfl
section
open Go.Proofs
def nodeC (u:U) (t:Int) (l:List En) (st:List Int) (i:Nat) (s:St3) (d:A):St3:=
 let o:=oV u t i ((s.2.1[i]?).getD offE) l d
 let r:=comeV st i d.2.2.2.2.2.2.2.1 o.1 s.2.1 s.2.2
 let q:=comeV st i d.2.2.2.2.2.2.2.2 o.2.1 r.2.1 r.2.2
 (s.1||r.1||q.1,q.2.1,q.2.2)
def Z7E (u:U) (t:Int) (l:List En) (st:List Int) (c:C) (es:List E) (ns:List Int):St3:=ZK (nodeC u t l st) 0 c.2 (false,es,ns)
def runC (u:U) (t:Int) (l:List En) (st:List Int) (c:C):Nat→List E→List Int→Int→Bool→List E×List Int×Int×Bool
 | 0,es,ns,r,d=>(es,ns,r,d)
 | n+1,es,ns,r,d=>bif d then (es,ns,r,d) else (fun z:St3=>runC u t l st c n z.2.1 z.2.2 (r+1) (!z.1)) (Z7E u t l st c es ns)
def gatC (u:U) (t:Int) (l:List En) (c:C) (es:List E):Ga:=ZK (gatS u t l es) 0 c.2 ([],[],[])
def resC (u:U) (t:Int) (l:List En) (c:C):Re:=
 (fun z:List E×List Int×Int×Bool=>(fun g:Ga=>(z.1,g.1,g.2.1,g.2.2,z.2.2.1,z.2.2.2)) (gatC u t l c z.1)) (runC u t l (Zt u) c 100 (es0 u c) (ns0 c) 0 false)
section
variable {u:U} {t:Int} {l:List En} {c:C} {st:List Int}
theorem Z8v (hu:unitOK u) (ht:0≤t) (hl:tabOK l) (hn:l.length≤1000) (hc:u.2.2.2[t.toNat]? = some c) {s:St3} (v:Inv u t c.2.length s.2.1 s.2.2) {i:Nat} {d:A} (hd:c.2[i]? = some d):nodeV u t l st i s d=nodeC u t l st i s d:=by
 have hi:=(List.getElem?_eq_some_iff.1 hd).1
 have hie:i<s.2.1.length:=by rw [v.le];exact hi
 have ge:s.2.1[i]? = some s.2.1[i]:=List.getElem?_eq_getElem hie
 unfold nodeV nodeC
 simp only [ge,Option.getD_some,ZOr hu ht hl hn hc (v.ok _ (List.getElem_mem hie)).env hd]
theorem Z8c (hu:unitOK u) (ht:0≤t) (hl:tabOK l) (hn:l.length≤1000) (hc:u.2.2.2[t.toNat]? = some c):∀ (r:List A) (i:Nat) (s:St3),c.2.drop i=r→Inv u t c.2.length s.2.1 s.2.2→
  ZK (fun i s d=>nodeV u t l st i s d) i r s=ZK (nodeC u t l st) i r s
 | [],i,s,_,v=>rfl
 | d::r,i,s,hd,v=>by
  have e:c.2[i]? = some d:=by
   have:=congrArg (fun q=>q[0]?) hd
   simpa using this
  obtain ⟨n1,_,_⟩:=Z1K (st:=st) hu ht hl hn hc v e
  have k:=Z8v (st:=st) hu ht hl hn hc v e
  rw [ZK,ZK,k]
  rw [k] at n1
  exact Z8c hu ht hl hn hc r (i+1) _ (by rw [← List.drop_drop,hd];rfl) n1
theorem Z8q (hu:unitOK u) (ht:0≤t) (hl:tabOK l) (hn:l.length≤1000) (hc:u.2.2.2[t.toNat]? = some c):∀ (n:Nat) (es:List E) (ns:List Int) (r:Int) (d:Bool),Inv u t c.2.length es ns→runV u t l st c n es ns r d=runC u t l st c n es ns r d
 | 0,es,ns,r,d,v=>rfl
 | n+1,es,ns,r,true,v=>rfl
 | n+1,es,ns,r,false,v=>by
  have k:Z5 u t l st c es ns=Z7E u t l st c es ns:=Z8c hu ht hl hn hc c.2 0 (false,es,ns) rfl v
  obtain ⟨h1,_,_⟩:=ZPT (st:=st) hu ht hl hn hc c.2 0 (false,es,ns) rfl v
  have h1:Inv u t c.2.length (Z5 u t l st c es ns).2.1 (Z5 u t l st c es ns).2.2:=h1
  rw [k] at h1
  show runV u t l st c n (Z5 u t l st c es ns).2.1 (Z5 u t l st c es ns).2.2 (r+1) (!(Z5 u t l st c es ns).1)=runC u t l st c n (Z7E u t l st c es ns).2.1 (Z7E u t l st c es ns).2.2 (r+1) (!(Z7E u t l st c es ns).1)
  rw [k]
  exact Z8q hu ht hl hn hc n _ _ (r+1) _ h1
theorem Z77 (hu:unitOK u) (ht:0≤t) (hl:tabOK l) (hn:l.length≤1000) (hc:u.2.2.2[t.toNat]? = some c):resV u t l (Zt u) c=resC u t l c:=by
 obtain ⟨_,_,v,g⟩:=ZnL hu ht hl hn hc
 have e:endV u t l (Zt u) c=runC u t l (Zt u) c 100 (es0 u c) (ns0 c) 0 false:=Z8q hu ht hl hn hc 100 (es0 u c) (ns0 c) 0 false (ZSN hu hc)
 have e2:gatE u t l (Zt u) c=gatC u t l c (endV u t l (Zt u) c).1:=ZW5 hu ht hl hn hc v c.2 0 ([],[],[]) rfl
 unfold resV
 rw [e2,e]
 rfl
end
end
theorem Z7v {a b:Int} (h:a≤b):Zd (a,b)=false:=decide_eq_false (by show ¬ (a>b);omega)
theorem jnI {a b c d e f:Int} (h1:a≤b) (h2:c≤d) (he:e≤a∧e≤c∧(e=a∨e=c)) (hf:b≤f∧d≤f∧(f=b∨f=d)):Zg (a,b) (c,d)=(e,f):=by
 unfold Zg
 rw [Z7v h1,Z7v h2]
 show (mn a c,mx b d)=(e,f)
 unfold mn mx
 rw [Prod.mk.injEq]
 constructor<;>split<;>omega
theorem jnR {a b c d e f:Int} (h1:a≤b) (h2:c≤d) (he:e≤a∧e≤c∧(e=a∨e=c)) (hf:b≤f∧d≤f∧(f=b∨f=d)):rJoin (a,b) (c,d)=(e,f):=by
 unfold rJoin
 rw [Z7v h1,Z7v h2]
 show (mn a c,mx b d)=(e,f)
 unfold mn mx
 rw [Prod.mk.injEq]
 constructor<;>split<;>omega
theorem Z8k {a b:Int} (h:a≤b) (h1 : -2147483648≤a) (h2:b≤2147483647):iMeet (a,b) aa=(a,b):=by
 have e1:mx a (-2147483648)=a:=by unfold mx;split<;>omega
 have e2:mn b 2147483647=b:=by unfold mn;split<;>omega
 unfold iMeet
 rw [Z7v h,show Zd aa=false from rfl]
 show (if Zd (mx a (-2147483648),mn b 2147483647)=true then nn else (mx a (-2147483648),mn b 2147483647))=_
 rw [e1,e2,Z7v h]
 rfl
theorem Z8f {a b:Int} (h1 : -2147483648≤a) (h2:a≤2147483647) (h3:2147483647<b):iMeet (a,b) aa=(a,2147483647):=by
 have e1:mx a (-2147483648)=a:=by unfold mx;split<;>omega
 have e2:mn b 2147483647=2147483647:=by unfold mn;split<;>omega
 unfold iMeet
 rw [Z7v (show a≤b by omega),show Zd aa=false from rfl]
 show (if Zd (mx a (-2147483648),mn b 2147483647)=true then nn else (mx a (-2147483648),mn b 2147483647))=_
 rw [e1,e2,Z7v h2]
 rfl
theorem Z8t {a b c d:Int} (h1:a≤b) (h2:c≤d) (h3 : -2147483648≤a+c) (h4:b+d≤2147483647):doI 1 (a,b) (c,d)=((a+c,b+d),false,false):=by
 unfold doI
 rw [Z7v h1,Z7v h2]
 show WW (a+c,b+d)=_
 unfold WW
 have l:leqB (a+c,b+d) aa=true:=by
  unfold leqB
  rw [Z7v (show a+c≤b+d by omega)]
  show (false||(decide (a+c≥-2147483648)&&decide (b+d≤2147483647)))=true
  rw [decide_eq_true (show a+c≥-2147483648 by omega),decide_eq_true h4]
  rfl
 rw [Z8k (by omega) h3 h4,l]
 rfl
theorem Z8j {a b c d:Int} (h1:a≤b) (h2:c≤d) (h3 : -2147483648≤a+c) (h5:a+c≤2147483647) (h4:2147483647<b+d):doI 1 (a,b) (c,d)=((a+c,2147483647),true,false):=by
 unfold doI
 rw [Z7v h1,Z7v h2]
 show WW (a+c,b+d)=_
 unfold WW
 have l:leqB (a+c,b+d) aa=false:=by
  unfold leqB
  rw [Z7v (show a+c≤b+d by omega)]
  show (false||(decide (a+c≥-2147483648)&&decide (b+d≤2147483647)))=false
  rw [decide_eq_false (show ¬ (b+d≤2147483647) by omega),Bool.and_false]
  rfl
 rw [Z8f h3 h5 h4,l]
 rfl
theorem Z75 (z:I):∀ (l:List Int) (s:I),s.2=2147483647→(∀ d∈l,d<z.2)→(l.foldl (fun s d=>if fitB d then (if d≤z.1 then mx s.1 d else s.1,if d≥z.2 then mn s.2 d else s.2) else (s.1,s.2)) s).2=2147483647
 | [],s,hs,_=>hs
 | d::r,s,hs,h=>by
  rw [List.foldl_cons]
  refine Z75 z r _ ?_ fun x hx=>h x (by simp [hx])
  have:=h d (by simp)
  split
  ·show (if d≥z.2 then mn s.2 d else s.2)=_
   rw [if_neg (by omega)];exact hs
  ·exact hs
theorem Z76 {a b b':Int} {l:List Int} (h1:a≤b) (h2:b<b') (h:∀ d∈l,d<b'):widV (a,b) (a,b') l=(a,2147483647):=by
 unfold widV
 rw [Z7v h1,Z7v (show a≤b' by omega),jnI h1 (show a≤b' by omega) (e:=a) (f:=b') ⟨by omega,by omega,.inl rfl⟩ ⟨by omega,by omega,.inr rfl⟩]
 simp only [Bool.false_eq_true,if_false]
 rw [if_neg (show ¬ (a<a) by omega),if_pos (show b' > b from h2)]
 unfold widS
 rw [Z75 (a,b') l aa rfl h]
theorem Z7J {a b c d:Int} {l:List Int} (h1:a≤b) (h2:c≤d) (h3:a≤c) (h4:d≤b):widV (a,b) (c,d) l=(a,b):=by
 unfold widV
 rw [Z7v h1,Z7v h2,jnI h1 h2 (e:=a) (f:=b) ⟨by omega,h3,.inl rfl⟩ ⟨by omega,h4,.inl rfl⟩]
 simp only [Bool.false_eq_true,if_false]
 rw [if_neg (show ¬ (a<a) by omega),if_neg (show ¬ (b>b) by omega)]
def Z70:List Sh:=[.dat (.int .i64)]
def Z7M:Nat→List Nat:=fun c=>bif c.beq 0 then [5,6] else [2]
def Z7P:List Con:=[⟨18,Zg3,Zlq⟩,⟨21,ZhD,ZmD⟩]
def Z7D:StS:=⟨[(5,.ptr 0 0),(6,.int .i64)],[(0,.box [.sl tR,.sl tEn,.int .i64,.bool])],1⟩
def Z7w:StS:=⟨[(2,.undef)],[],0⟩
def Z7x:StS:=⟨[(2,.bool)],[],0⟩
abbrev Z7z:=(Int×(List Re)×(List En)×Int×Bool)
def Z7T:StD Z7D→Z7z:=fun ((_,a,_),((b,c,d,e,_),_))=>(a,b,c,d,e)
def Z7W:Z7z→StD Z7D:=fun (a,b,c,d,e)=>(((),a,()),((b,c,d,e,()),()))
abbrev Z7A:=Unit
def Z7R (d:StD Z7w):Z7A:=()
def Z7G (x:Z7A):StD Z7w:=(((),()),())
abbrev Z7B:=Bool
def Z7S (d:StD Z7x):Z7B:=(d.1.1)
def Z7H (x:Z7B):StD Z7x:=((x,()),())
def Z7C (s6:Int) (b0:List Re) (b0_1:List En) (b0_2:Int) (b0_3:Bool):Option ((Int×(List Re)×(List En)×Int×Bool)⊕(Unit⊕Bool)):=bif decide (s6<2) then bif decide (0≤s6) then Za b0[s6.toNat]? none fun d7=>bif (List.length d7.2.2.2.1:Int) !=1 then some (.inr (.inr false)) else bif decide (0≤s6) then Za b0[s6.toNat]? none fun d8=>Za d8.2.2.2.1[Int.toNat (0:Int)]? none fun d9=>bif d9.2.2.2.1 !=7 then some (.inr (.inr false)) else bif decide (0≤s6) then Za b0[s6.toNat]? none fun d10=>Za d10.2.2.2.1[Int.toNat (0:Int)]? none fun d11=>bif d11.2.2.1 !=2 then some (.inr (.inr false)) else some (.inl (IntKind.i64.wrap (s6+1),b0,b0_1,b0_2,b0_3)) else none else none else none else some (.inr (.inl PUnit.unit))
def Z7K:Z7z→Option (Z7z⊕(Z7A⊕Z7B)):=fun (a,b,c,d,e)=>Z7C a b c d e
def Z7y (x:Z7z):Option (Z7A⊕Z7B):=Zh Z7K Zl x
def Z7N:Nat→Tm→Prog (Nat×Tm):=(varP 0 (fun T h=>(rdS Z7D T h).map Z7T) Z7y (fun y=>.alt y (altE 2 Z7w Z7G) (altE 1 Z7x Z7H)) (fun _ _=>.fail))
def Z7Y:Lpc:=⟨4,0,78,(fun base T=>.norm base (Z7M 0) T (Z7N base)),by kernel_rfl,by kernel_rfl,(loopU Z7P [] 40 1048576 8 (keep:=Z7M) (q:=Z7N) (by kernel_rfl) (Zv (s:=Z7D) (un:=Z7W) (by rfl) (fun _=>rfl) (ZW (Zn (s:=Z7w) (un:=Z7G) (flat:=Z7R) (by rfl) (fun _=>rfl)) (Zn (s:=Z7x) (un:=Z7H) (flat:=Z7S) (by rfl) (fun _=>rfl))) (step:=Z7K) (fun _=>by kernel_rfl) (fun _ _ e=>⟨_,e⟩) (ZV (Zm 2 Z7w Z7G) (Zm 1 Z7x Z7H)) (ZB.fail _ _)))⟩
def Z7L (a0:Int):Option Bool:=bif decide (a0<1) then some true else bif decide (a0>1000) then some true else Za (QS (([0],[],0,[(3,[(5,0,0,0,0,0,0,1,0),(1,1,0,0,0,a0,0,2,0),(4,2,0,1,0,0,1,3,0),(6,0,2,0,0,0,0,0,0),(14,0,0,0,0,0,0,4,0)]),(3,[]++[(5,0,0,0,0,0,0,1,0),(1,1,0,0,0,a0,0,2,0),(4,2,0,1,0,0,1,3,0),(6,0,2,0,0,0,0,0,0),(14,0,0,0,0,0,0,4,0)])]),())) none fun d3=>bif !d3.2.2.2 then some false else bif (List.length d3.1:Int) !=2 then some false else Za (Z7y (0,d3)) none fun d4=>Sum.elim (fun e5=>Za (ZQ ()) none fun d6=>some d6) (fun e5=>some e5) d4
def Z7Q (x:Int×Unit):Option Bool:=Z7L x.1
def Z71:=conP true Z70 (.dat .bool) Z7Q
theorem Z8d:Zf Tryz.prog 4 Z71:=Ze (calU Z7P [Z7Y] 40 1048576 8 4) true (by rfl) (by rfl) (fun x r e=>(Zk _ _ _ _ _ _ _).trans ((show _=Z7Q x by kernel_rfl).trans e)) (.inl rfl)
section
open Go.Proofs
def riC (k:Int):C:=(3,[(5,0,0,0,0,0,0,1,0),(1,1,0,0,0,k,0,2,0),(4,2,0,1,0,0,1,3,0),(6,0,2,0,0,0,0,0,0),(14,0,0,0,0,0,0,4,0)])
def riU (k:Int):U:=([0],[],0,[riC k,riC k])
section
variable {k t:Int} {l:List En} {st:List Int}
def E5 (a b c g:I):E:=(true,[a,b,c],[g],[],0,0)
theorem Z78 {fr to:Int} {es:List E} {ns:List Int}:comeV st fr to offE es ns=(false,es,ns):=rfl
theorem Z7F (t:Int) {u:U} {i:Nat} {es es':List E} {ns ns':List Int} {d:A} {X:E} {al:List Int} {so:List En} {ac:List Ac} {b:Bool} (ho:oV u t (i:Int) ((es[i]?).getD offE) l d=(X,offE,al,so,ac)) (hc:comeV st (i:Int) d.2.2.2.2.2.2.2.1 X es ns=(true,es',ns')):nodeC u t l st i (b,es,ns) d=(true,es',ns'):=by
 unfold nodeC
 show (b||(comeV st (i:Int) d.2.2.2.2.2.2.2.1 (oV u t (i:Int) ((es[i]?).getD offE) l d).1 es ns).1||_,_,_)=_
 simp only [ho,hc,Z78]
 cases b<;>rfl
theorem Z7X (t:Int) {u:U} {i:Nat} {es:List E} {ns:List Int} {d:A} {X:E} {al:List Int} {so:List En} {ac:List Ac} {b:Bool} (ho:oV u t (i:Int) ((es[i]?).getD offE) l d=(X,offE,al,so,ac)) (hc:comeV st (i:Int) d.2.2.2.2.2.2.2.1 X es ns=(false,es,ns)):nodeC u t l st i (b,es,ns) d=(b,es,ns):=by
 unfold nodeC
 show (b||(comeV st (i:Int) d.2.2.2.2.2.2.2.1 (oV u t (i:Int) ((es[i]?).getD offE) l d).1 es ns).1||_,_,_)=_
 simp only [ho,hc,Z78]
 cases b<;>rfl
theorem Z7U (t:Int) {u:U} {i:Nat} {es:List E} {ns:List Int} {d:A} {b:Bool} (he:(es[i]?).getD offE=offE):nodeC u t l st i (b,es,ns) d=(b,es,ns):=by
 refine Z7X t (X:=offE) (al:=[]) (so:=[]) (ac:=[]) ?_ Z78
 rw [he]
 rfl
theorem Z73 {a b:E} (ha:a.1=true) (h:a≠b):sameE a b=false:=by
 cases q:sameE a b
 ·rfl
 ·exact absurd (ZXD ha q) h
theorem Z72 {fr to n:Int} {X:E} {es:List E} {ns:List Int} (hX:X.1=true) (g1:es[to.toNat]? = some offE) (g2:ns[to.toNat]? = some n) (hf:fr<to):comeV st fr to X es ns=(true,es.set to.toNat X,ns):=by
 have hn:nxtV st fr to offE X n=X:=by
  unfold nxtV
  rw [if_neg (fun q=>by omega)]
  unfold eJoin
  rw [hX]
  rfl
 unfold comeV
 simp only [hX,g1,g2,hn]
 rw [Z73 hX (fun q=>by rw [q] at hX;cases hX),cond_false,if_neg (show ¬ to≤fr by omega)]
theorem Z7I {fr to n:Int} {X old N:E} {es:List E} {ns:List Int} (hX:X.1=true) (g1:es[to.toNat]? = some old) (g2:ns[to.toNat]? = some n) (hj:eJoin Zg old X=N) (hf:fr<to) (hne:N≠old):comeV st fr to X es ns=(true,es.set to.toNat N,ns):=by
 have hn:nxtV st fr to old X n=N:=by
  unfold nxtV
  rw [if_neg (fun q=>by omega)];exact hj
 have on:N.1=true:=by rw [← hj];exact ZlD hX
 unfold comeV
 simp only [hX,g1,g2,hn]
 rw [Z73 on hne,cond_false,if_neg (show ¬ to≤fr by omega)]
theorem Z7Z {fr to n:Int} {X old:E} {es:List E} {ns:List Int} (hX:X.1=true) (g1:es[to.toNat]? = some old) (g2:ns[to.toNat]? = some n) (hj:eJoin Zg old X=old) (hf:fr<to):comeV st fr to X es ns=(false,es,ns):=by
 have hn:nxtV st fr to old X n=old:=by
  unfold nxtV
  rw [if_neg (fun q=>by omega)];exact hj
 unfold comeV
 simp only [hX,g1,g2,hn,ZPV,cond_true]
theorem Z74 {fr to n:Int} {X old N:E} {es:List E} {ns:List Int} (hX:X.1=true) (g1:es[to.toNat]? = some old) (g2:ns[to.toNat]? = some n) (hj:eJoin Zg old X=N) (hb:to≤fr) (hn3:n<3) (hne:N≠old):comeV st fr to X es ns=(true,es.set to.toNat N,ns.set to.toNat (IntKind.i64.wrap (n+1))):=by
 have hn:nxtV st fr to old X n=N:=by
  unfold nxtV
  rw [if_neg (fun q=>by omega)];exact hj
 have on:N.1=true:=by rw [← hj];exact ZlD hX
 unfold comeV
 simp only [hX,g1,g2,hn]
 rw [Z73 on hne,cond_false,if_pos hb]
theorem Z8a {fr to n:Int} {X old:E} {es:List E} {ns:List Int} (hX:X.1=true) (g1:es[to.toNat]? = some old) (g2:ns[to.toNat]? = some n) (hj:eJoin Zg old X=old) (hb:to≤fr) (hn3:n<3):comeV st fr to X es ns=(false,es,ns):=by
 have hn:nxtV st fr to old X n=old:=by
  unfold nxtV
  rw [if_neg (fun q=>by omega)];exact hj
 unfold comeV
 simp only [hX,g1,g2,hn,ZPV,cond_true]
theorem Z9l {fr to n:Int} {X old J N:E} {es:List E} {ns:List Int} (hX:X.1=true) (g1:es[to.toNat]? = some old) (g2:ns[to.toNat]? = some n) (hj:eJoin Zg old X=J) (hw:eJoin (widF st) old J=N) (hb:to≤fr) (hn3:n≥3) (hne:N≠old):comeV st fr to X es ns=(true,es.set to.toNat N,ns.set to.toNat (IntKind.i64.wrap (n+1))):=by
 have hn:nxtV st fr to old X n=N:=by
  unfold nxtV
  rw [if_pos ⟨hb,hn3⟩,hj];exact hw
 have on:N.1=true:=by rw [← hw];exact ZlD (by rw [← hj];exact ZlD hX)
 unfold comeV
 simp only [hX,g1,g2,hn]
 rw [Z73 on hne,cond_false,if_pos hb]
theorem Z8e {fr to n:Int} {X old J:E} {es:List E} {ns:List Int} (hX:X.1=true) (g1:es[to.toNat]? = some old) (g2:ns[to.toNat]? = some n) (hj:eJoin Zg old X=J) (hw:eJoin (widF st) old J=old) (hb:to≤fr) (hn3:n≥3):comeV st fr to X es ns=(false,es,ns):=by
 have hn:nxtV st fr to old X n=old:=by
  unfold nxtV
  rw [if_pos ⟨hb,hn3⟩,hj];exact hw
 unfold comeV
 simp only [hX,g1,g2,hn,ZPV,cond_true]
theorem e5 (F:I→I→I) (a0 a1 a2 a3 b0 b1 b2 b3:I):eJoin F (E5 a0 a1 a2 a3) (E5 b0 b1 b2 b3)=E5 (F a0 b0) (F a1 b1) (F a2 b2) (F a3 b3):=by kernel_rfl
theorem j5 {a0 a1 a2 a3 b0 b1 b2 b3 c0 c1 c2 c3:I} (h0:Zg a0 b0=c0) (h1:Zg a1 b1=c1) (h2:Zg a2 b2=c2) (h3:Zg a3 b3=c3):eJoin Zg (E5 a0 a1 a2 a3) (E5 b0 b1 b2 b3)=E5 c0 c1 c2 c3:=by
 rw [e5,h0,h1,h2,h3]
theorem w5 {a0 a1 a2 a3 b0 b1 b2 b3 c0 c1 c2 c3:I} (h0:widV a0 b0 st=c0) (h1:widV a1 b1 st=c1) (h2:widV a2 b2 st=c2) (h3:widV a3 b3 st=c3):eJoin (widF st) (E5 a0 a1 a2 a3) (E5 b0 b1 b2 b3)=E5 c0 c1 c2 c3:=by
 rw [e5]
 unfold widF
 rw [h0,h1,h2,h3]
theorem dd0 {a b a' b':Int} {x1 x2 x3 y1 y2 y3:I} (h:b≠b'):E5 (a,b) x1 x2 x3≠E5 (a',b') y1 y2 y3:=fun q=>by simp only [E5,Prod.mk.injEq,List.cons.injEq,and_true,true_and] at q;omega
theorem dd1 {a b a' b':Int} {x0 x2 x3 y0 y2 y3:I} (h:b≠b'):E5 x0 (a,b) x2 x3≠E5 y0 (a',b') y2 y3:=fun q=>by simp only [E5,Prod.mk.injEq,List.cons.injEq,and_true,true_and] at q;omega
theorem dd2 {a b a' b':Int} {x0 x1 x3 y0 y1 y3:I} (h:b≠b'):E5 x0 x1 (a,b) x3≠E5 y0 y1 (a',b') y3:=fun q=>by simp only [E5,Prod.mk.injEq,List.cons.injEq,and_true,true_and] at q;omega
theorem dd3 {a b a' b':Int} {x0 x1 x2 y0 y1 y2:I} (h:b≠b'):E5 x0 x1 x2 (a,b)≠E5 y0 y1 y2 (a',b'):=fun q=>by simp only [E5,Prod.mk.injEq,List.cons.injEq,and_true,true_and] at q;omega
theorem o0 (t:Int) {g0 g1 s0 s1 e f:Int} {v0 v1 v2:I} (hS:seenV l t false 0 0=(s0,s1)) (h1:g0≤g1) (h2:s0≤s1) (he:e≤g0∧e≤s0∧(e=g0∨e=s0)) (hf:g1≤f∧s1≤f∧(f=g1∨f=s1)) :
  oV (riU k) t 0 (E5 v0 v1 v2 (g0,g1)) l (5,0,0,0,0,0,0,1,0)=(E5 (e,f) v1 v2 (g0,g1),offE,[],[],[(t,0,false,0,false,0)]):=by
 show (setE (E5 v0 v1 v2 (g0,g1)) 0 (rJoin (g0,g1) (seenV l t false 0 0)),_,_,_,_)=_
 rw [hS,jnR h1 h2 he hf]
 rfl
theorem o0n (t:Int) {g0 g1:Int} {v0 v1 v2:I} (ht:t=0∨t=1) (h1:g0≤g1) :
  oV (riU k) t 0 (E5 v0 v1 v2 (g0,g1)) [] (5,0,0,0,0,0,0,1,0)=(E5 (g0,g1) v1 v2 (g0,g1),offE,[],[],[(t,0,false,0,false,0)]):=by
 show (setE (E5 v0 v1 v2 (g0,g1)) 0 (rJoin (g0,g1) nn),_,_,_,_)=_
 rw [show rJoin (g0,g1) nn=(g0,g1) by unfold rJoin;rw [Z7v h1];rfl]
 rfl
theorem o1 (t:Int) {v0 v1 v2 g:I}:oV (riU k) t 1 (E5 v0 v1 v2 g) l (1,1,0,0,0,k,0,2,0)=(E5 v0 (k,k) v2 g,offE,[],[],[]):=rfl
theorem o2g (t:Int) {v0 v1 v2 g r:I} {p q:Bool} (h:doI 1 v0 v1=(r,p,q)) (hr:Zd r=false):oV (riU k) t 2 (E5 v0 v1 v2 g) l (4,2,0,1,0,0,1,3,0)=(E5 v0 v1 r g,offE,(bif p then [7] else [])++(bif q then [8] else []),[],[]):=by
 show (bif Zd (doI 1 v0 v1).1 then offE else setE (E5 v0 v1 v2 g) 2 (doI 1 v0 v1).1,offE,(bif (doI 1 v0 v1).2.1 then [7] else [])++(bif (doI 1 v0 v1).2.2 then [8] else []),_,_)=_
 rw [h]
 show (bif Zd r then offE else _,_,_,_,_)=_
 rw [hr]
 rfl
theorem o2 (t:Int) {a b c d e f:Int} {v2 g:I} (h1:a≤b) (h2:c≤d) (h3 : -2147483648≤a+c) (h4:b+d≤2147483647) (he:a+c=e) (hf:b+d=f):oV (riU k) t 2 (E5 (a,b) (c,d) v2 g) l (4,2,0,1,0,0,1,3,0)=(E5 (a,b) (c,d) (e,f) g,offE,[],[],[]):=by
 rw [← he,← hf]
 exact o2g t (Z8t h1 h2 h3 h4) (Z7v (by omega))
theorem o2b (t:Int) {a b c d e:Int} {v2 g:I} (h1:a≤b) (h2:c≤d) (h3 : -2147483648≤a+c) (h5:a+c≤2147483647) (h4:2147483647<b+d) (he:a+c=e):oV (riU k) t 2 (E5 (a,b) (c,d) v2 g) l (4,2,0,1,0,0,1,3,0)=(E5 (a,b) (c,d) (e,2147483647) g,offE,[7],[],[]):=by
 rw [← he]
 exact o2g t (Z8j h1 h2 h3 h5 h4) (Z7v h5)
theorem o3 (t:Int) {v0 v1 v2 g:I}:oV (riU k) t 3 (E5 v0 v1 v2 g) l (6,0,2,0,0,0,0,0,0)=(E5 v0 v1 v2 v2,offE,[],[(t,false,0,0,v2)],[(t,3,false,0,true,0)]):=rfl
def riS (k:Int):List En:=[(0,false,0,0,(k,2147483647)),(1,false,0,0,(k,2147483647))]
theorem Z7O {t:Int} {u:U} {c:C} {d0 d1 d2 d3 d4:A} {es:List E} {ns:List Int} {s1 s2 s3 s4 s5:St3} (hc:c.2=[d0,d1,d2,d3,d4]) (h0:nodeC u t l st 0 (false,es,ns) d0=s1) (h1:nodeC u t l st 1 s1 d1=s2) (h2:nodeC u t l st 2 s2 d2=s3) (h3:nodeC u t l st 3 s3 d3=s4) (h4:nodeC u t l st 4 s4 d4=s5):Z7E u t l st c es ns=s5:=by
 unfold Z7E
 rw [hc]
 show nodeC u t l st 4 (nodeC u t l st 3 (nodeC u t l st 2 (nodeC u t l st 1 (nodeC u t l st 0 (false,es,ns) d0) d1) d2) d3) d4=s5
 rw [h0,h1,h2,h3,h4]
theorem Z7u (h1:1≤k) (h2:k≤1000):∀ d∈Zt (riU k),d≤k+1:=by
 intro d hd
 have ha:allN (riU k)=[0,k,k - 1,k+1,k,k - 1,k+1]:=rfl
 rcases (Z0D _ _).1 hd with ⟨h,_⟩ | h
 ·rw [ha] at h
  simp only [List.mem_cons,List.not_mem_nil,or_false] at h
  omega
 ·simp only [List.mem_cons,List.not_mem_nil,or_false] at h
  omega
theorem Z8o:es0 (riU k) (riC k)=[E5 (0,0) (0,0) (0,0) (0,0),offE,offE,offE,offE]:=rfl
theorem Z8p:ns0 (riC k)=[0,0,0,0,0]:=rfl
theorem Z7V {n:Nat} {u:U} {c:C} {es es':List E} {ns ns':List Int} {r:Int} {ch:Bool} (h:Z7E u t l st c es ns=(ch,es',ns')):runC u t l st c (n+1) es ns r false=runC u t l st c n es' ns' (r+1) (!ch):=by
 show (fun z:St3=>runC u t l st c n z.2.1 z.2.2 (r+1) (!z.1)) (Z7E u t l st c es ns)=_
 rw [h]
theorem Z8r {n:Nat} {u:U} {c:C} {es:List E} {ns:List Int} {r:Int}:runC u t l st c n es ns r true=(es,ns,r,true):=by cases n<;>rfl
theorem Z8u {e0 e1 e2 e3 x0 x1 x2 x3:E} {a0 a3:List Ac} (o0:oV (riU k) t 0 e0 l (5,0,0,0,0,0,0,1,0)=(x0,offE,[],[],a0)) (o1:oV (riU k) t 1 e1 l (1,1,0,0,0,k,0,2,0)=(x1,offE,[],[],[])) (o2:oV (riU k) t 2 e2 l (4,2,0,1,0,0,1,3,0)=(x2,offE,[7],[],[])) (o3:oV (riU k) t 3 e3 l (6,0,2,0,0,0,0,0,0)=(x3,offE,[],[(t,false,0,0,(k,2147483647))],a3)) (hk:k≤2147483647):∃ ac,gatC (riU k) t l (riC k) [e0,e1,e2,e3,offE]=([(t,false,0,0,(k,2147483647))],ac,[(1,t,2,7,0,0)]):=by
 refine ⟨((((([]++a0)++[])++[])++a3)++[]),?_⟩
 show gatN t 4 (gatN t 3 (gatN t 2 (gatN t 1 (gatN t 0 ([],[],[]) (oV (riU k) t 0 e0 l (5,0,0,0,0,0,0,1,0))) (oV (riU k) t 1 e1 l (1,1,0,0,0,k,0,2,0))) (oV (riU k) t 2 e2 l (4,2,0,1,0,0,1,3,0))) (oV (riU k) t 3 e3 l (6,0,2,0,0,0,0,0,0))) (oV (riU k) t 4 offE l (14,0,0,0,0,0,0,4,0))=_
 rw [o0,o1,o2,o3]
 show (addT Zg [] [((t,false,0,0,(k,2147483647)):En)],_,_)=_
 rw [ZNz _ (Z7v hk)]
 rfl
theorem Z8w (h1:1≤k) (h2:k≤1000) (ht:t=0∨t=1) (b:Bool):nodeC (riU k) t [] (Zt (riU k)) 0 (b,[E5 (0,0) (0,0) (0,0) (0,0),offE,offE,offE,offE],[0,0,0,0,0]) (5,0,0,0,0,0,0,1,0)=(true,[E5 (0,0) (0,0) (0,0) (0,0),E5 (0,0) (0,0) (0,0) (0,0),offE,offE,offE],[0,0,0,0,0]):=have hst:=Z7u h1 h2
 Z7F t (X:=E5 (0,0) (0,0) (0,0) (0,0)) (o0n t ht (by omega)) (Z72 (fr:=0) (to:=1) (n:=0) rfl rfl rfl (by decide))
theorem Z8x (h1:1≤k) (h2:k≤1000) (ht:t=0∨t=1) (b:Bool):nodeC (riU k) t [] (Zt (riU k)) 1 (b,[E5 (0,0) (0,0) (0,0) (0,0),E5 (0,0) (0,0) (0,0) (0,0),offE,offE,offE],[0,0,0,0,0]) (1,1,0,0,0,k,0,2,0)=(true,[E5 (0,0) (0,0) (0,0) (0,0),E5 (0,0) (0,0) (0,0) (0,0),E5 (0,0) (k,k) (0,0) (0,0),offE,offE],[0,0,0,0,0]):=have hst:=Z7u h1 h2
 Z7F t (X:=E5 (0,0) (k,k) (0,0) (0,0)) (o1 t) (Z72 (fr:=1) (to:=2) (n:=0) rfl rfl rfl (by decide))
theorem Z8y (h1:1≤k) (h2:k≤1000) (ht:t=0∨t=1) (b:Bool):nodeC (riU k) t [] (Zt (riU k)) 2 (b,[E5 (0,0) (0,0) (0,0) (0,0),E5 (0,0) (0,0) (0,0) (0,0),E5 (0,0) (k,k) (0,0) (0,0),offE,offE],[0,0,0,0,0]) (4,2,0,1,0,0,1,3,0)=(true,[E5 (0,0) (0,0) (0,0) (0,0),E5 (0,0) (0,0) (0,0) (0,0),E5 (0,0) (k,k) (0,0) (0,0),E5 (0,0) (k,k) (k,k) (0,0),offE],[0,0,0,0,0]):=have hst:=Z7u h1 h2
 Z7F t (X:=E5 (0,0) (k,k) (k,k) (0,0)) (o2 t (by omega) (by omega) (by omega) (by omega) (by omega) (by omega)) (Z72 (fr:=2) (to:=3) (n:=0) rfl rfl rfl (by decide))
theorem Z8z (h1:1≤k) (h2:k≤1000) (ht:t=0∨t=1) (b:Bool):nodeC (riU k) t [] (Zt (riU k)) 3 (b,[E5 (0,0) (0,0) (0,0) (0,0),E5 (0,0) (0,0) (0,0) (0,0),E5 (0,0) (k,k) (0,0) (0,0),E5 (0,0) (k,k) (k,k) (0,0),offE],[0,0,0,0,0]) (6,0,2,0,0,0,0,0,0)=(true,[E5 (0,0) (0,k) (0,k) (0,k),E5 (0,0) (0,0) (0,0) (0,0),E5 (0,0) (k,k) (0,0) (0,0),E5 (0,0) (k,k) (k,k) (0,0),offE],[1,0,0,0,0]):=have hst:=Z7u h1 h2
 Z7F t (X:=E5 (0,0) (k,k) (k,k) (k,k)) (o3 t) (Z74 (fr:=3) (to:=0) (n:=0) (old:=E5 (0,0) (0,0) (0,0) (0,0)) (N:=E5 (0,0) (0,k) (0,k) (0,k)) rfl rfl rfl (j5 (jnI (by omega) (by omega) (by omega) (by omega)) (jnI (by omega) (by omega) (by omega) (by omega)) (jnI (by omega) (by omega) (by omega) (by omega)) (jnI (by omega) (by omega) (by omega) (by omega))) (by decide) (by decide) (dd1 (by omega)))
theorem Z8A (h1:1≤k) (h2:k≤1000) (ht:t=0∨t=1) (b:Bool):nodeC (riU k) t [] (Zt (riU k)) 4 (b,[E5 (0,0) (0,k) (0,k) (0,k),E5 (0,0) (0,0) (0,0) (0,0),E5 (0,0) (k,k) (0,0) (0,0),E5 (0,0) (k,k) (k,k) (0,0),offE],[1,0,0,0,0]) (14,0,0,0,0,0,0,4,0)=(b,[E5 (0,0) (0,k) (0,k) (0,k),E5 (0,0) (0,0) (0,0) (0,0),E5 (0,0) (k,k) (0,0) (0,0),E5 (0,0) (k,k) (k,k) (0,0),offE],[1,0,0,0,0]):=Z7U t rfl
theorem Z9n (h1:1≤k) (h2:k≤1000) (ht:t=0∨t=1):Z7E (riU k) t [] (Zt (riU k)) (riC k) [E5 (0,0) (0,0) (0,0) (0,0),offE,offE,offE,offE] [0,0,0,0,0]=(true,[E5 (0,0) (0,k) (0,k) (0,k),E5 (0,0) (0,0) (0,0) (0,0),E5 (0,0) (k,k) (0,0) (0,0),E5 (0,0) (k,k) (k,k) (0,0),offE],[1,0,0,0,0]):=Z7O rfl (Z8w h1 h2 ht _) (Z8x h1 h2 ht _) (Z8y h1 h2 ht _) (Z8z h1 h2 ht _) (Z8A h1 h2 ht _)
theorem Z8B (h1:1≤k) (h2:k≤1000) (ht:t=0∨t=1) (b:Bool):nodeC (riU k) t [] (Zt (riU k)) 0 (b,[E5 (0,0) (0,k) (0,k) (0,k),E5 (0,0) (0,0) (0,0) (0,0),E5 (0,0) (k,k) (0,0) (0,0),E5 (0,0) (k,k) (k,k) (0,0),offE],[1,0,0,0,0]) (5,0,0,0,0,0,0,1,0)=(true,[E5 (0,0) (0,k) (0,k) (0,k),E5 (0,k) (0,k) (0,k) (0,k),E5 (0,0) (k,k) (0,0) (0,0),E5 (0,0) (k,k) (k,k) (0,0),offE],[1,0,0,0,0]):=have hst:=Z7u h1 h2
 Z7F t (X:=E5 (0,k) (0,k) (0,k) (0,k)) (o0n t ht (by omega)) (Z7I (fr:=0) (to:=1) (n:=0) (old:=E5 (0,0) (0,0) (0,0) (0,0)) (N:=E5 (0,k) (0,k) (0,k) (0,k)) rfl rfl rfl (j5 (jnI (by omega) (by omega) (by omega) (by omega)) (jnI (by omega) (by omega) (by omega) (by omega)) (jnI (by omega) (by omega) (by omega) (by omega)) (jnI (by omega) (by omega) (by omega) (by omega))) (by decide) (dd0 (by omega)))
theorem Z8C (h1:1≤k) (h2:k≤1000) (ht:t=0∨t=1) (b:Bool):nodeC (riU k) t [] (Zt (riU k)) 1 (b,[E5 (0,0) (0,k) (0,k) (0,k),E5 (0,k) (0,k) (0,k) (0,k),E5 (0,0) (k,k) (0,0) (0,0),E5 (0,0) (k,k) (k,k) (0,0),offE],[1,0,0,0,0]) (1,1,0,0,0,k,0,2,0)=(true,[E5 (0,0) (0,k) (0,k) (0,k),E5 (0,k) (0,k) (0,k) (0,k),E5 (0,k) (k,k) (0,k) (0,k),E5 (0,0) (k,k) (k,k) (0,0),offE],[1,0,0,0,0]):=have hst:=Z7u h1 h2
 Z7F t (X:=E5 (0,k) (k,k) (0,k) (0,k)) (o1 t) (Z7I (fr:=1) (to:=2) (n:=0) (old:=E5 (0,0) (k,k) (0,0) (0,0)) (N:=E5 (0,k) (k,k) (0,k) (0,k)) rfl rfl rfl (j5 (jnI (by omega) (by omega) (by omega) (by omega)) (jnI (by omega) (by omega) (by omega) (by omega)) (jnI (by omega) (by omega) (by omega) (by omega)) (jnI (by omega) (by omega) (by omega) (by omega))) (by decide) (dd0 (by omega)))
theorem Z8D (h1:1≤k) (h2:k≤1000) (ht:t=0∨t=1) (b:Bool):nodeC (riU k) t [] (Zt (riU k)) 2 (b,[E5 (0,0) (0,k) (0,k) (0,k),E5 (0,k) (0,k) (0,k) (0,k),E5 (0,k) (k,k) (0,k) (0,k),E5 (0,0) (k,k) (k,k) (0,0),offE],[1,0,0,0,0]) (4,2,0,1,0,0,1,3,0)=(true,[E5 (0,0) (0,k) (0,k) (0,k),E5 (0,k) (0,k) (0,k) (0,k),E5 (0,k) (k,k) (0,k) (0,k),E5 (0,k) (k,k) (k,2*k) (0,k),offE],[1,0,0,0,0]):=have hst:=Z7u h1 h2
 Z7F t (X:=E5 (0,k) (k,k) (k,2*k) (0,k)) (o2 t (by omega) (by omega) (by omega) (by omega) (by omega) (by omega)) (Z7I (fr:=2) (to:=3) (n:=0) (old:=E5 (0,0) (k,k) (k,k) (0,0)) (N:=E5 (0,k) (k,k) (k,2*k) (0,k)) rfl rfl rfl (j5 (jnI (by omega) (by omega) (by omega) (by omega)) (jnI (by omega) (by omega) (by omega) (by omega)) (jnI (by omega) (by omega) (by omega) (by omega)) (jnI (by omega) (by omega) (by omega) (by omega))) (by decide) (dd0 (by omega)))
theorem Z8E (h1:1≤k) (h2:k≤1000) (ht:t=0∨t=1) (b:Bool):nodeC (riU k) t [] (Zt (riU k)) 3 (b,[E5 (0,0) (0,k) (0,k) (0,k),E5 (0,k) (0,k) (0,k) (0,k),E5 (0,k) (k,k) (0,k) (0,k),E5 (0,k) (k,k) (k,2*k) (0,k),offE],[1,0,0,0,0]) (6,0,2,0,0,0,0,0,0)=(true,[E5 (0,k) (0,k) (0,2*k) (0,2*k),E5 (0,k) (0,k) (0,k) (0,k),E5 (0,k) (k,k) (0,k) (0,k),E5 (0,k) (k,k) (k,2*k) (0,k),offE],[2,0,0,0,0]):=have hst:=Z7u h1 h2
 Z7F t (X:=E5 (0,k) (k,k) (k,2*k) (k,2*k)) (o3 t) (Z74 (fr:=3) (to:=0) (n:=1) (old:=E5 (0,0) (0,k) (0,k) (0,k)) (N:=E5 (0,k) (0,k) (0,2*k) (0,2*k)) rfl rfl rfl (j5 (jnI (by omega) (by omega) (by omega) (by omega)) (jnI (by omega) (by omega) (by omega) (by omega)) (jnI (by omega) (by omega) (by omega) (by omega)) (jnI (by omega) (by omega) (by omega) (by omega))) (by decide) (by decide) (dd0 (by omega)))
theorem Z8F (h1:1≤k) (h2:k≤1000) (ht:t=0∨t=1) (b:Bool):nodeC (riU k) t [] (Zt (riU k)) 4 (b,[E5 (0,k) (0,k) (0,2*k) (0,2*k),E5 (0,k) (0,k) (0,k) (0,k),E5 (0,k) (k,k) (0,k) (0,k),E5 (0,k) (k,k) (k,2*k) (0,k),offE],[2,0,0,0,0]) (14,0,0,0,0,0,0,4,0)=(b,[E5 (0,k) (0,k) (0,2*k) (0,2*k),E5 (0,k) (0,k) (0,k) (0,k),E5 (0,k) (k,k) (0,k) (0,k),E5 (0,k) (k,k) (k,2*k) (0,k),offE],[2,0,0,0,0]):=Z7U t rfl
theorem Z9o (h1:1≤k) (h2:k≤1000) (ht:t=0∨t=1):Z7E (riU k) t [] (Zt (riU k)) (riC k) [E5 (0,0) (0,k) (0,k) (0,k),E5 (0,0) (0,0) (0,0) (0,0),E5 (0,0) (k,k) (0,0) (0,0),E5 (0,0) (k,k) (k,k) (0,0),offE] [1,0,0,0,0]=(true,[E5 (0,k) (0,k) (0,2*k) (0,2*k),E5 (0,k) (0,k) (0,k) (0,k),E5 (0,k) (k,k) (0,k) (0,k),E5 (0,k) (k,k) (k,2*k) (0,k),offE],[2,0,0,0,0]):=Z7O rfl (Z8B h1 h2 ht _) (Z8C h1 h2 ht _) (Z8D h1 h2 ht _) (Z8E h1 h2 ht _) (Z8F h1 h2 ht _)
theorem Z8G (h1:1≤k) (h2:k≤1000) (ht:t=0∨t=1) (b:Bool):nodeC (riU k) t [] (Zt (riU k)) 0 (b,[E5 (0,k) (0,k) (0,2*k) (0,2*k),E5 (0,k) (0,k) (0,k) (0,k),E5 (0,k) (k,k) (0,k) (0,k),E5 (0,k) (k,k) (k,2*k) (0,k),offE],[2,0,0,0,0]) (5,0,0,0,0,0,0,1,0)=(true,[E5 (0,k) (0,k) (0,2*k) (0,2*k),E5 (0,2*k) (0,k) (0,2*k) (0,2*k),E5 (0,k) (k,k) (0,k) (0,k),E5 (0,k) (k,k) (k,2*k) (0,k),offE],[2,0,0,0,0]):=have hst:=Z7u h1 h2
 Z7F t (X:=E5 (0,2*k) (0,k) (0,2*k) (0,2*k)) (o0n t ht (by omega)) (Z7I (fr:=0) (to:=1) (n:=0) (old:=E5 (0,k) (0,k) (0,k) (0,k)) (N:=E5 (0,2*k) (0,k) (0,2*k) (0,2*k)) rfl rfl rfl (j5 (jnI (by omega) (by omega) (by omega) (by omega)) (jnI (by omega) (by omega) (by omega) (by omega)) (jnI (by omega) (by omega) (by omega) (by omega)) (jnI (by omega) (by omega) (by omega) (by omega))) (by decide) (dd0 (by omega)))
theorem Z8H (h1:1≤k) (h2:k≤1000) (ht:t=0∨t=1) (b:Bool):nodeC (riU k) t [] (Zt (riU k)) 1 (b,[E5 (0,k) (0,k) (0,2*k) (0,2*k),E5 (0,2*k) (0,k) (0,2*k) (0,2*k),E5 (0,k) (k,k) (0,k) (0,k),E5 (0,k) (k,k) (k,2*k) (0,k),offE],[2,0,0,0,0]) (1,1,0,0,0,k,0,2,0)=(true,[E5 (0,k) (0,k) (0,2*k) (0,2*k),E5 (0,2*k) (0,k) (0,2*k) (0,2*k),E5 (0,2*k) (k,k) (0,2*k) (0,2*k),E5 (0,k) (k,k) (k,2*k) (0,k),offE],[2,0,0,0,0]):=have hst:=Z7u h1 h2
 Z7F t (X:=E5 (0,2*k) (k,k) (0,2*k) (0,2*k)) (o1 t) (Z7I (fr:=1) (to:=2) (n:=0) (old:=E5 (0,k) (k,k) (0,k) (0,k)) (N:=E5 (0,2*k) (k,k) (0,2*k) (0,2*k)) rfl rfl rfl (j5 (jnI (by omega) (by omega) (by omega) (by omega)) (jnI (by omega) (by omega) (by omega) (by omega)) (jnI (by omega) (by omega) (by omega) (by omega)) (jnI (by omega) (by omega) (by omega) (by omega))) (by decide) (dd0 (by omega)))
theorem Z8I (h1:1≤k) (h2:k≤1000) (ht:t=0∨t=1) (b:Bool):nodeC (riU k) t [] (Zt (riU k)) 2 (b,[E5 (0,k) (0,k) (0,2*k) (0,2*k),E5 (0,2*k) (0,k) (0,2*k) (0,2*k),E5 (0,2*k) (k,k) (0,2*k) (0,2*k),E5 (0,k) (k,k) (k,2*k) (0,k),offE],[2,0,0,0,0]) (4,2,0,1,0,0,1,3,0)=(true,[E5 (0,k) (0,k) (0,2*k) (0,2*k),E5 (0,2*k) (0,k) (0,2*k) (0,2*k),E5 (0,2*k) (k,k) (0,2*k) (0,2*k),E5 (0,2*k) (k,k) (k,3*k) (0,2*k),offE],[2,0,0,0,0]):=have hst:=Z7u h1 h2
 Z7F t (X:=E5 (0,2*k) (k,k) (k,3*k) (0,2*k)) (o2 t (by omega) (by omega) (by omega) (by omega) (by omega) (by omega)) (Z7I (fr:=2) (to:=3) (n:=0) (old:=E5 (0,k) (k,k) (k,2*k) (0,k)) (N:=E5 (0,2*k) (k,k) (k,3*k) (0,2*k)) rfl rfl rfl (j5 (jnI (by omega) (by omega) (by omega) (by omega)) (jnI (by omega) (by omega) (by omega) (by omega)) (jnI (by omega) (by omega) (by omega) (by omega)) (jnI (by omega) (by omega) (by omega) (by omega))) (by decide) (dd0 (by omega)))
theorem Z8J (h1:1≤k) (h2:k≤1000) (ht:t=0∨t=1) (b:Bool):nodeC (riU k) t [] (Zt (riU k)) 3 (b,[E5 (0,k) (0,k) (0,2*k) (0,2*k),E5 (0,2*k) (0,k) (0,2*k) (0,2*k),E5 (0,2*k) (k,k) (0,2*k) (0,2*k),E5 (0,2*k) (k,k) (k,3*k) (0,2*k),offE],[2,0,0,0,0]) (6,0,2,0,0,0,0,0,0)=(true,[E5 (0,2*k) (0,k) (0,3*k) (0,3*k),E5 (0,2*k) (0,k) (0,2*k) (0,2*k),E5 (0,2*k) (k,k) (0,2*k) (0,2*k),E5 (0,2*k) (k,k) (k,3*k) (0,2*k),offE],[3,0,0,0,0]):=have hst:=Z7u h1 h2
 Z7F t (X:=E5 (0,2*k) (k,k) (k,3*k) (k,3*k)) (o3 t) (Z74 (fr:=3) (to:=0) (n:=2) (old:=E5 (0,k) (0,k) (0,2*k) (0,2*k)) (N:=E5 (0,2*k) (0,k) (0,3*k) (0,3*k)) rfl rfl rfl (j5 (jnI (by omega) (by omega) (by omega) (by omega)) (jnI (by omega) (by omega) (by omega) (by omega)) (jnI (by omega) (by omega) (by omega) (by omega)) (jnI (by omega) (by omega) (by omega) (by omega))) (by decide) (by decide) (dd0 (by omega)))
theorem Z8K (h1:1≤k) (h2:k≤1000) (ht:t=0∨t=1) (b:Bool):nodeC (riU k) t [] (Zt (riU k)) 4 (b,[E5 (0,2*k) (0,k) (0,3*k) (0,3*k),E5 (0,2*k) (0,k) (0,2*k) (0,2*k),E5 (0,2*k) (k,k) (0,2*k) (0,2*k),E5 (0,2*k) (k,k) (k,3*k) (0,2*k),offE],[3,0,0,0,0]) (14,0,0,0,0,0,0,4,0)=(b,[E5 (0,2*k) (0,k) (0,3*k) (0,3*k),E5 (0,2*k) (0,k) (0,2*k) (0,2*k),E5 (0,2*k) (k,k) (0,2*k) (0,2*k),E5 (0,2*k) (k,k) (k,3*k) (0,2*k),offE],[3,0,0,0,0]):=Z7U t rfl
theorem Z9p (h1:1≤k) (h2:k≤1000) (ht:t=0∨t=1):Z7E (riU k) t [] (Zt (riU k)) (riC k) [E5 (0,k) (0,k) (0,2*k) (0,2*k),E5 (0,k) (0,k) (0,k) (0,k),E5 (0,k) (k,k) (0,k) (0,k),E5 (0,k) (k,k) (k,2*k) (0,k),offE] [2,0,0,0,0]=(true,[E5 (0,2*k) (0,k) (0,3*k) (0,3*k),E5 (0,2*k) (0,k) (0,2*k) (0,2*k),E5 (0,2*k) (k,k) (0,2*k) (0,2*k),E5 (0,2*k) (k,k) (k,3*k) (0,2*k),offE],[3,0,0,0,0]):=Z7O rfl (Z8G h1 h2 ht _) (Z8H h1 h2 ht _) (Z8I h1 h2 ht _) (Z8J h1 h2 ht _) (Z8K h1 h2 ht _)
theorem Z8L (h1:1≤k) (h2:k≤1000) (ht:t=0∨t=1) (b:Bool):nodeC (riU k) t [] (Zt (riU k)) 0 (b,[E5 (0,2*k) (0,k) (0,3*k) (0,3*k),E5 (0,2*k) (0,k) (0,2*k) (0,2*k),E5 (0,2*k) (k,k) (0,2*k) (0,2*k),E5 (0,2*k) (k,k) (k,3*k) (0,2*k),offE],[3,0,0,0,0]) (5,0,0,0,0,0,0,1,0)=(true,[E5 (0,2*k) (0,k) (0,3*k) (0,3*k),E5 (0,3*k) (0,k) (0,3*k) (0,3*k),E5 (0,2*k) (k,k) (0,2*k) (0,2*k),E5 (0,2*k) (k,k) (k,3*k) (0,2*k),offE],[3,0,0,0,0]):=have hst:=Z7u h1 h2
 Z7F t (X:=E5 (0,3*k) (0,k) (0,3*k) (0,3*k)) (o0n t ht (by omega)) (Z7I (fr:=0) (to:=1) (n:=0) (old:=E5 (0,2*k) (0,k) (0,2*k) (0,2*k)) (N:=E5 (0,3*k) (0,k) (0,3*k) (0,3*k)) rfl rfl rfl (j5 (jnI (by omega) (by omega) (by omega) (by omega)) (jnI (by omega) (by omega) (by omega) (by omega)) (jnI (by omega) (by omega) (by omega) (by omega)) (jnI (by omega) (by omega) (by omega) (by omega))) (by decide) (dd0 (by omega)))
theorem Z8M (h1:1≤k) (h2:k≤1000) (ht:t=0∨t=1) (b:Bool):nodeC (riU k) t [] (Zt (riU k)) 1 (b,[E5 (0,2*k) (0,k) (0,3*k) (0,3*k),E5 (0,3*k) (0,k) (0,3*k) (0,3*k),E5 (0,2*k) (k,k) (0,2*k) (0,2*k),E5 (0,2*k) (k,k) (k,3*k) (0,2*k),offE],[3,0,0,0,0]) (1,1,0,0,0,k,0,2,0)=(true,[E5 (0,2*k) (0,k) (0,3*k) (0,3*k),E5 (0,3*k) (0,k) (0,3*k) (0,3*k),E5 (0,3*k) (k,k) (0,3*k) (0,3*k),E5 (0,2*k) (k,k) (k,3*k) (0,2*k),offE],[3,0,0,0,0]):=have hst:=Z7u h1 h2
 Z7F t (X:=E5 (0,3*k) (k,k) (0,3*k) (0,3*k)) (o1 t) (Z7I (fr:=1) (to:=2) (n:=0) (old:=E5 (0,2*k) (k,k) (0,2*k) (0,2*k)) (N:=E5 (0,3*k) (k,k) (0,3*k) (0,3*k)) rfl rfl rfl (j5 (jnI (by omega) (by omega) (by omega) (by omega)) (jnI (by omega) (by omega) (by omega) (by omega)) (jnI (by omega) (by omega) (by omega) (by omega)) (jnI (by omega) (by omega) (by omega) (by omega))) (by decide) (dd0 (by omega)))
theorem Z8N (h1:1≤k) (h2:k≤1000) (ht:t=0∨t=1) (b:Bool):nodeC (riU k) t [] (Zt (riU k)) 2 (b,[E5 (0,2*k) (0,k) (0,3*k) (0,3*k),E5 (0,3*k) (0,k) (0,3*k) (0,3*k),E5 (0,3*k) (k,k) (0,3*k) (0,3*k),E5 (0,2*k) (k,k) (k,3*k) (0,2*k),offE],[3,0,0,0,0]) (4,2,0,1,0,0,1,3,0)=(true,[E5 (0,2*k) (0,k) (0,3*k) (0,3*k),E5 (0,3*k) (0,k) (0,3*k) (0,3*k),E5 (0,3*k) (k,k) (0,3*k) (0,3*k),E5 (0,3*k) (k,k) (k,4*k) (0,3*k),offE],[3,0,0,0,0]):=have hst:=Z7u h1 h2
 Z7F t (X:=E5 (0,3*k) (k,k) (k,4*k) (0,3*k)) (o2 t (by omega) (by omega) (by omega) (by omega) (by omega) (by omega)) (Z7I (fr:=2) (to:=3) (n:=0) (old:=E5 (0,2*k) (k,k) (k,3*k) (0,2*k)) (N:=E5 (0,3*k) (k,k) (k,4*k) (0,3*k)) rfl rfl rfl (j5 (jnI (by omega) (by omega) (by omega) (by omega)) (jnI (by omega) (by omega) (by omega) (by omega)) (jnI (by omega) (by omega) (by omega) (by omega)) (jnI (by omega) (by omega) (by omega) (by omega))) (by decide) (dd0 (by omega)))
theorem Z8O (h1:1≤k) (h2:k≤1000) (ht:t=0∨t=1) (b:Bool):nodeC (riU k) t [] (Zt (riU k)) 3 (b,[E5 (0,2*k) (0,k) (0,3*k) (0,3*k),E5 (0,3*k) (0,k) (0,3*k) (0,3*k),E5 (0,3*k) (k,k) (0,3*k) (0,3*k),E5 (0,3*k) (k,k) (k,4*k) (0,3*k),offE],[3,0,0,0,0]) (6,0,2,0,0,0,0,0,0)=(true,[E5 (0,2147483647) (0,k) (0,2147483647) (0,2147483647),E5 (0,3*k) (0,k) (0,3*k) (0,3*k),E5 (0,3*k) (k,k) (0,3*k) (0,3*k),E5 (0,3*k) (k,k) (k,4*k) (0,3*k),offE],[4,0,0,0,0]):=have hst:=Z7u h1 h2
 Z7F t (X:=E5 (0,3*k) (k,k) (k,4*k) (k,4*k)) (o3 t) (Z9l (fr:=3) (to:=0) (n:=3) (old:=E5 (0,2*k) (0,k) (0,3*k) (0,3*k)) (J:=E5 (0,3*k) (0,k) (0,4*k) (0,4*k)) (N:=E5 (0,2147483647) (0,k) (0,2147483647) (0,2147483647)) rfl rfl rfl (j5 (jnI (by omega) (by omega) (by omega) (by omega)) (jnI (by omega) (by omega) (by omega) (by omega)) (jnI (by omega) (by omega) (by omega) (by omega)) (jnI (by omega) (by omega) (by omega) (by omega))) (w5 (Z76 (by omega) (by omega) (fun d hd=>by have:=hst d hd;omega)) (Z7J (by omega) (by omega) (by omega) (by omega)) (Z76 (by omega) (by omega) (fun d hd=>by have:=hst d hd;omega)) (Z76 (by omega) (by omega) (fun d hd=>by have:=hst d hd;omega))) (by decide) (by decide) (dd0 (by omega)))
theorem Z8P (h1:1≤k) (h2:k≤1000) (ht:t=0∨t=1) (b:Bool):nodeC (riU k) t [] (Zt (riU k)) 4 (b,[E5 (0,2147483647) (0,k) (0,2147483647) (0,2147483647),E5 (0,3*k) (0,k) (0,3*k) (0,3*k),E5 (0,3*k) (k,k) (0,3*k) (0,3*k),E5 (0,3*k) (k,k) (k,4*k) (0,3*k),offE],[4,0,0,0,0]) (14,0,0,0,0,0,0,4,0)=(b,[E5 (0,2147483647) (0,k) (0,2147483647) (0,2147483647),E5 (0,3*k) (0,k) (0,3*k) (0,3*k),E5 (0,3*k) (k,k) (0,3*k) (0,3*k),E5 (0,3*k) (k,k) (k,4*k) (0,3*k),offE],[4,0,0,0,0]):=Z7U t rfl
theorem Z9q (h1:1≤k) (h2:k≤1000) (ht:t=0∨t=1):Z7E (riU k) t [] (Zt (riU k)) (riC k) [E5 (0,2*k) (0,k) (0,3*k) (0,3*k),E5 (0,2*k) (0,k) (0,2*k) (0,2*k),E5 (0,2*k) (k,k) (0,2*k) (0,2*k),E5 (0,2*k) (k,k) (k,3*k) (0,2*k),offE] [3,0,0,0,0]=(true,[E5 (0,2147483647) (0,k) (0,2147483647) (0,2147483647),E5 (0,3*k) (0,k) (0,3*k) (0,3*k),E5 (0,3*k) (k,k) (0,3*k) (0,3*k),E5 (0,3*k) (k,k) (k,4*k) (0,3*k),offE],[4,0,0,0,0]):=Z7O rfl (Z8L h1 h2 ht _) (Z8M h1 h2 ht _) (Z8N h1 h2 ht _) (Z8O h1 h2 ht _) (Z8P h1 h2 ht _)
theorem Z8Q (h1:1≤k) (h2:k≤1000) (ht:t=0∨t=1) (b:Bool):nodeC (riU k) t [] (Zt (riU k)) 0 (b,[E5 (0,2147483647) (0,k) (0,2147483647) (0,2147483647),E5 (0,3*k) (0,k) (0,3*k) (0,3*k),E5 (0,3*k) (k,k) (0,3*k) (0,3*k),E5 (0,3*k) (k,k) (k,4*k) (0,3*k),offE],[4,0,0,0,0]) (5,0,0,0,0,0,0,1,0)=(true,[E5 (0,2147483647) (0,k) (0,2147483647) (0,2147483647),E5 (0,2147483647) (0,k) (0,2147483647) (0,2147483647),E5 (0,3*k) (k,k) (0,3*k) (0,3*k),E5 (0,3*k) (k,k) (k,4*k) (0,3*k),offE],[4,0,0,0,0]):=have hst:=Z7u h1 h2
 Z7F t (X:=E5 (0,2147483647) (0,k) (0,2147483647) (0,2147483647)) (o0n t ht (by omega)) (Z7I (fr:=0) (to:=1) (n:=0) (old:=E5 (0,3*k) (0,k) (0,3*k) (0,3*k)) (N:=E5 (0,2147483647) (0,k) (0,2147483647) (0,2147483647)) rfl rfl rfl (j5 (jnI (by omega) (by omega) (by omega) (by omega)) (jnI (by omega) (by omega) (by omega) (by omega)) (jnI (by omega) (by omega) (by omega) (by omega)) (jnI (by omega) (by omega) (by omega) (by omega))) (by decide) (dd0 (by omega)))
theorem Z8R (h1:1≤k) (h2:k≤1000) (ht:t=0∨t=1) (b:Bool):nodeC (riU k) t [] (Zt (riU k)) 1 (b,[E5 (0,2147483647) (0,k) (0,2147483647) (0,2147483647),E5 (0,2147483647) (0,k) (0,2147483647) (0,2147483647),E5 (0,3*k) (k,k) (0,3*k) (0,3*k),E5 (0,3*k) (k,k) (k,4*k) (0,3*k),offE],[4,0,0,0,0]) (1,1,0,0,0,k,0,2,0)=(true,[E5 (0,2147483647) (0,k) (0,2147483647) (0,2147483647),E5 (0,2147483647) (0,k) (0,2147483647) (0,2147483647),E5 (0,2147483647) (k,k) (0,2147483647) (0,2147483647),E5 (0,3*k) (k,k) (k,4*k) (0,3*k),offE],[4,0,0,0,0]):=have hst:=Z7u h1 h2
 Z7F t (X:=E5 (0,2147483647) (k,k) (0,2147483647) (0,2147483647)) (o1 t) (Z7I (fr:=1) (to:=2) (n:=0) (old:=E5 (0,3*k) (k,k) (0,3*k) (0,3*k)) (N:=E5 (0,2147483647) (k,k) (0,2147483647) (0,2147483647)) rfl rfl rfl (j5 (jnI (by omega) (by omega) (by omega) (by omega)) (jnI (by omega) (by omega) (by omega) (by omega)) (jnI (by omega) (by omega) (by omega) (by omega)) (jnI (by omega) (by omega) (by omega) (by omega))) (by decide) (dd0 (by omega)))
theorem Z8S (h1:1≤k) (h2:k≤1000) (ht:t=0∨t=1) (b:Bool):nodeC (riU k) t [] (Zt (riU k)) 2 (b,[E5 (0,2147483647) (0,k) (0,2147483647) (0,2147483647),E5 (0,2147483647) (0,k) (0,2147483647) (0,2147483647),E5 (0,2147483647) (k,k) (0,2147483647) (0,2147483647),E5 (0,3*k) (k,k) (k,4*k) (0,3*k),offE],[4,0,0,0,0]) (4,2,0,1,0,0,1,3,0)=(true,[E5 (0,2147483647) (0,k) (0,2147483647) (0,2147483647),E5 (0,2147483647) (0,k) (0,2147483647) (0,2147483647),E5 (0,2147483647) (k,k) (0,2147483647) (0,2147483647),E5 (0,2147483647) (k,k) (k,2147483647) (0,2147483647),offE],[4,0,0,0,0]):=have hst:=Z7u h1 h2
 Z7F t (X:=E5 (0,2147483647) (k,k) (k,2147483647) (0,2147483647)) (o2b t (by omega) (by omega) (by omega) (by omega) (by omega) (by omega)) (Z7I (fr:=2) (to:=3) (n:=0) (old:=E5 (0,3*k) (k,k) (k,4*k) (0,3*k)) (N:=E5 (0,2147483647) (k,k) (k,2147483647) (0,2147483647)) rfl rfl rfl (j5 (jnI (by omega) (by omega) (by omega) (by omega)) (jnI (by omega) (by omega) (by omega) (by omega)) (jnI (by omega) (by omega) (by omega) (by omega)) (jnI (by omega) (by omega) (by omega) (by omega))) (by decide) (dd0 (by omega)))
theorem Z8T (h1:1≤k) (h2:k≤1000) (ht:t=0∨t=1) (b:Bool):nodeC (riU k) t [] (Zt (riU k)) 3 (b,[E5 (0,2147483647) (0,k) (0,2147483647) (0,2147483647),E5 (0,2147483647) (0,k) (0,2147483647) (0,2147483647),E5 (0,2147483647) (k,k) (0,2147483647) (0,2147483647),E5 (0,2147483647) (k,k) (k,2147483647) (0,2147483647),offE],[4,0,0,0,0]) (6,0,2,0,0,0,0,0,0)=(b,[E5 (0,2147483647) (0,k) (0,2147483647) (0,2147483647),E5 (0,2147483647) (0,k) (0,2147483647) (0,2147483647),E5 (0,2147483647) (k,k) (0,2147483647) (0,2147483647),E5 (0,2147483647) (k,k) (k,2147483647) (0,2147483647),offE],[4,0,0,0,0]):=have hst:=Z7u h1 h2
 Z7X t (X:=E5 (0,2147483647) (k,k) (k,2147483647) (k,2147483647)) (o3 t) (Z8e (fr:=3) (to:=0) (n:=4) (old:=E5 (0,2147483647) (0,k) (0,2147483647) (0,2147483647)) (J:=E5 (0,2147483647) (0,k) (0,2147483647) (0,2147483647)) rfl rfl rfl (j5 (jnI (by omega) (by omega) (by omega) (by omega)) (jnI (by omega) (by omega) (by omega) (by omega)) (jnI (by omega) (by omega) (by omega) (by omega)) (jnI (by omega) (by omega) (by omega) (by omega))) (w5 (Z7J (by omega) (by omega) (by omega) (by omega)) (Z7J (by omega) (by omega) (by omega) (by omega)) (Z7J (by omega) (by omega) (by omega) (by omega)) (Z7J (by omega) (by omega) (by omega) (by omega))) (by decide) (by decide))
theorem Z8U (h1:1≤k) (h2:k≤1000) (ht:t=0∨t=1) (b:Bool):nodeC (riU k) t [] (Zt (riU k)) 4 (b,[E5 (0,2147483647) (0,k) (0,2147483647) (0,2147483647),E5 (0,2147483647) (0,k) (0,2147483647) (0,2147483647),E5 (0,2147483647) (k,k) (0,2147483647) (0,2147483647),E5 (0,2147483647) (k,k) (k,2147483647) (0,2147483647),offE],[4,0,0,0,0]) (14,0,0,0,0,0,0,4,0)=(b,[E5 (0,2147483647) (0,k) (0,2147483647) (0,2147483647),E5 (0,2147483647) (0,k) (0,2147483647) (0,2147483647),E5 (0,2147483647) (k,k) (0,2147483647) (0,2147483647),E5 (0,2147483647) (k,k) (k,2147483647) (0,2147483647),offE],[4,0,0,0,0]):=Z7U t rfl
theorem Z9r (h1:1≤k) (h2:k≤1000) (ht:t=0∨t=1):Z7E (riU k) t [] (Zt (riU k)) (riC k) [E5 (0,2147483647) (0,k) (0,2147483647) (0,2147483647),E5 (0,3*k) (0,k) (0,3*k) (0,3*k),E5 (0,3*k) (k,k) (0,3*k) (0,3*k),E5 (0,3*k) (k,k) (k,4*k) (0,3*k),offE] [4,0,0,0,0]=(true,[E5 (0,2147483647) (0,k) (0,2147483647) (0,2147483647),E5 (0,2147483647) (0,k) (0,2147483647) (0,2147483647),E5 (0,2147483647) (k,k) (0,2147483647) (0,2147483647),E5 (0,2147483647) (k,k) (k,2147483647) (0,2147483647),offE],[4,0,0,0,0]):=Z7O rfl (Z8Q h1 h2 ht _) (Z8R h1 h2 ht _) (Z8S h1 h2 ht _) (Z8T h1 h2 ht _) (Z8U h1 h2 ht _)
theorem Z8V (h1:1≤k) (h2:k≤1000) (ht:t=0∨t=1) (b:Bool):nodeC (riU k) t [] (Zt (riU k)) 0 (b,[E5 (0,2147483647) (0,k) (0,2147483647) (0,2147483647),E5 (0,2147483647) (0,k) (0,2147483647) (0,2147483647),E5 (0,2147483647) (k,k) (0,2147483647) (0,2147483647),E5 (0,2147483647) (k,k) (k,2147483647) (0,2147483647),offE],[4,0,0,0,0]) (5,0,0,0,0,0,0,1,0)=(b,[E5 (0,2147483647) (0,k) (0,2147483647) (0,2147483647),E5 (0,2147483647) (0,k) (0,2147483647) (0,2147483647),E5 (0,2147483647) (k,k) (0,2147483647) (0,2147483647),E5 (0,2147483647) (k,k) (k,2147483647) (0,2147483647),offE],[4,0,0,0,0]):=have hst:=Z7u h1 h2
 Z7X t (X:=E5 (0,2147483647) (0,k) (0,2147483647) (0,2147483647)) (o0n t ht (by omega)) (Z7Z (fr:=0) (to:=1) (n:=0) (old:=E5 (0,2147483647) (0,k) (0,2147483647) (0,2147483647)) rfl rfl rfl (j5 (jnI (by omega) (by omega) (by omega) (by omega)) (jnI (by omega) (by omega) (by omega) (by omega)) (jnI (by omega) (by omega) (by omega) (by omega)) (jnI (by omega) (by omega) (by omega) (by omega))) (by decide))
theorem Z8W (h1:1≤k) (h2:k≤1000) (ht:t=0∨t=1) (b:Bool):nodeC (riU k) t [] (Zt (riU k)) 1 (b,[E5 (0,2147483647) (0,k) (0,2147483647) (0,2147483647),E5 (0,2147483647) (0,k) (0,2147483647) (0,2147483647),E5 (0,2147483647) (k,k) (0,2147483647) (0,2147483647),E5 (0,2147483647) (k,k) (k,2147483647) (0,2147483647),offE],[4,0,0,0,0]) (1,1,0,0,0,k,0,2,0)=(b,[E5 (0,2147483647) (0,k) (0,2147483647) (0,2147483647),E5 (0,2147483647) (0,k) (0,2147483647) (0,2147483647),E5 (0,2147483647) (k,k) (0,2147483647) (0,2147483647),E5 (0,2147483647) (k,k) (k,2147483647) (0,2147483647),offE],[4,0,0,0,0]):=have hst:=Z7u h1 h2
 Z7X t (X:=E5 (0,2147483647) (k,k) (0,2147483647) (0,2147483647)) (o1 t) (Z7Z (fr:=1) (to:=2) (n:=0) (old:=E5 (0,2147483647) (k,k) (0,2147483647) (0,2147483647)) rfl rfl rfl (j5 (jnI (by omega) (by omega) (by omega) (by omega)) (jnI (by omega) (by omega) (by omega) (by omega)) (jnI (by omega) (by omega) (by omega) (by omega)) (jnI (by omega) (by omega) (by omega) (by omega))) (by decide))
theorem Z8X (h1:1≤k) (h2:k≤1000) (ht:t=0∨t=1) (b:Bool):nodeC (riU k) t [] (Zt (riU k)) 2 (b,[E5 (0,2147483647) (0,k) (0,2147483647) (0,2147483647),E5 (0,2147483647) (0,k) (0,2147483647) (0,2147483647),E5 (0,2147483647) (k,k) (0,2147483647) (0,2147483647),E5 (0,2147483647) (k,k) (k,2147483647) (0,2147483647),offE],[4,0,0,0,0]) (4,2,0,1,0,0,1,3,0)=(b,[E5 (0,2147483647) (0,k) (0,2147483647) (0,2147483647),E5 (0,2147483647) (0,k) (0,2147483647) (0,2147483647),E5 (0,2147483647) (k,k) (0,2147483647) (0,2147483647),E5 (0,2147483647) (k,k) (k,2147483647) (0,2147483647),offE],[4,0,0,0,0]):=have hst:=Z7u h1 h2
 Z7X t (X:=E5 (0,2147483647) (k,k) (k,2147483647) (0,2147483647)) (o2b t (by omega) (by omega) (by omega) (by omega) (by omega) (by omega)) (Z7Z (fr:=2) (to:=3) (n:=0) (old:=E5 (0,2147483647) (k,k) (k,2147483647) (0,2147483647)) rfl rfl rfl (j5 (jnI (by omega) (by omega) (by omega) (by omega)) (jnI (by omega) (by omega) (by omega) (by omega)) (jnI (by omega) (by omega) (by omega) (by omega)) (jnI (by omega) (by omega) (by omega) (by omega))) (by decide))
theorem Z8Y (h1:1≤k) (h2:k≤1000) (ht:t=0∨t=1) (b:Bool):nodeC (riU k) t [] (Zt (riU k)) 3 (b,[E5 (0,2147483647) (0,k) (0,2147483647) (0,2147483647),E5 (0,2147483647) (0,k) (0,2147483647) (0,2147483647),E5 (0,2147483647) (k,k) (0,2147483647) (0,2147483647),E5 (0,2147483647) (k,k) (k,2147483647) (0,2147483647),offE],[4,0,0,0,0]) (6,0,2,0,0,0,0,0,0)=(b,[E5 (0,2147483647) (0,k) (0,2147483647) (0,2147483647),E5 (0,2147483647) (0,k) (0,2147483647) (0,2147483647),E5 (0,2147483647) (k,k) (0,2147483647) (0,2147483647),E5 (0,2147483647) (k,k) (k,2147483647) (0,2147483647),offE],[4,0,0,0,0]):=have hst:=Z7u h1 h2
 Z7X t (X:=E5 (0,2147483647) (k,k) (k,2147483647) (k,2147483647)) (o3 t) (Z8e (fr:=3) (to:=0) (n:=4) (old:=E5 (0,2147483647) (0,k) (0,2147483647) (0,2147483647)) (J:=E5 (0,2147483647) (0,k) (0,2147483647) (0,2147483647)) rfl rfl rfl (j5 (jnI (by omega) (by omega) (by omega) (by omega)) (jnI (by omega) (by omega) (by omega) (by omega)) (jnI (by omega) (by omega) (by omega) (by omega)) (jnI (by omega) (by omega) (by omega) (by omega))) (w5 (Z7J (by omega) (by omega) (by omega) (by omega)) (Z7J (by omega) (by omega) (by omega) (by omega)) (Z7J (by omega) (by omega) (by omega) (by omega)) (Z7J (by omega) (by omega) (by omega) (by omega))) (by decide) (by decide))
theorem Z8Z (h1:1≤k) (h2:k≤1000) (ht:t=0∨t=1) (b:Bool):nodeC (riU k) t [] (Zt (riU k)) 4 (b,[E5 (0,2147483647) (0,k) (0,2147483647) (0,2147483647),E5 (0,2147483647) (0,k) (0,2147483647) (0,2147483647),E5 (0,2147483647) (k,k) (0,2147483647) (0,2147483647),E5 (0,2147483647) (k,k) (k,2147483647) (0,2147483647),offE],[4,0,0,0,0]) (14,0,0,0,0,0,0,4,0)=(b,[E5 (0,2147483647) (0,k) (0,2147483647) (0,2147483647),E5 (0,2147483647) (0,k) (0,2147483647) (0,2147483647),E5 (0,2147483647) (k,k) (0,2147483647) (0,2147483647),E5 (0,2147483647) (k,k) (k,2147483647) (0,2147483647),offE],[4,0,0,0,0]):=Z7U t rfl
theorem Z9s (h1:1≤k) (h2:k≤1000) (ht:t=0∨t=1):Z7E (riU k) t [] (Zt (riU k)) (riC k) [E5 (0,2147483647) (0,k) (0,2147483647) (0,2147483647),E5 (0,2147483647) (0,k) (0,2147483647) (0,2147483647),E5 (0,2147483647) (k,k) (0,2147483647) (0,2147483647),E5 (0,2147483647) (k,k) (k,2147483647) (0,2147483647),offE] [4,0,0,0,0]=(false,[E5 (0,2147483647) (0,k) (0,2147483647) (0,2147483647),E5 (0,2147483647) (0,k) (0,2147483647) (0,2147483647),E5 (0,2147483647) (k,k) (0,2147483647) (0,2147483647),E5 (0,2147483647) (k,k) (k,2147483647) (0,2147483647),offE],[4,0,0,0,0]):=Z7O rfl (Z8V h1 h2 ht _) (Z8W h1 h2 ht _) (Z8X h1 h2 ht _) (Z8Y h1 h2 ht _) (Z8Z h1 h2 ht _)
theorem Z82 (h1:1≤k) (h2:k≤1000) (ht:t=0∨t=1) (hS:seenV (riS k) t false 0 0=(k,2147483647)) (b:Bool):nodeC (riU k) t (riS k) (Zt (riU k)) 0 (b,[E5 (0,0) (0,0) (0,0) (0,0),offE,offE,offE,offE],[0,0,0,0,0]) (5,0,0,0,0,0,0,1,0)=(true,[E5 (0,0) (0,0) (0,0) (0,0),E5 (0,2147483647) (0,0) (0,0) (0,0),offE,offE,offE],[0,0,0,0,0]):=have hst:=Z7u h1 h2
 Z7F t (X:=E5 (0,2147483647) (0,0) (0,0) (0,0)) (o0 (l:=(riS k)) t hS (by omega) (by omega) (by omega) (by omega)) (Z72 (fr:=0) (to:=1) (n:=0) rfl rfl rfl (by decide))
theorem Z83 (h1:1≤k) (h2:k≤1000) (ht:t=0∨t=1) (hS:seenV (riS k) t false 0 0=(k,2147483647)) (b:Bool):nodeC (riU k) t (riS k) (Zt (riU k)) 1 (b,[E5 (0,0) (0,0) (0,0) (0,0),E5 (0,2147483647) (0,0) (0,0) (0,0),offE,offE,offE],[0,0,0,0,0]) (1,1,0,0,0,k,0,2,0)=(true,[E5 (0,0) (0,0) (0,0) (0,0),E5 (0,2147483647) (0,0) (0,0) (0,0),E5 (0,2147483647) (k,k) (0,0) (0,0),offE,offE],[0,0,0,0,0]):=have hst:=Z7u h1 h2
 Z7F t (X:=E5 (0,2147483647) (k,k) (0,0) (0,0)) (o1 t) (Z72 (fr:=1) (to:=2) (n:=0) rfl rfl rfl (by decide))
theorem Z84 (h1:1≤k) (h2:k≤1000) (ht:t=0∨t=1) (hS:seenV (riS k) t false 0 0=(k,2147483647)) (b:Bool):nodeC (riU k) t (riS k) (Zt (riU k)) 2 (b,[E5 (0,0) (0,0) (0,0) (0,0),E5 (0,2147483647) (0,0) (0,0) (0,0),E5 (0,2147483647) (k,k) (0,0) (0,0),offE,offE],[0,0,0,0,0]) (4,2,0,1,0,0,1,3,0)=(true,[E5 (0,0) (0,0) (0,0) (0,0),E5 (0,2147483647) (0,0) (0,0) (0,0),E5 (0,2147483647) (k,k) (0,0) (0,0),E5 (0,2147483647) (k,k) (k,2147483647) (0,0),offE],[0,0,0,0,0]):=have hst:=Z7u h1 h2
 Z7F t (X:=E5 (0,2147483647) (k,k) (k,2147483647) (0,0)) (o2b t (by omega) (by omega) (by omega) (by omega) (by omega) (by omega)) (Z72 (fr:=2) (to:=3) (n:=0) rfl rfl rfl (by decide))
theorem Z85 (h1:1≤k) (h2:k≤1000) (ht:t=0∨t=1) (hS:seenV (riS k) t false 0 0=(k,2147483647)) (b:Bool):nodeC (riU k) t (riS k) (Zt (riU k)) 3 (b,[E5 (0,0) (0,0) (0,0) (0,0),E5 (0,2147483647) (0,0) (0,0) (0,0),E5 (0,2147483647) (k,k) (0,0) (0,0),E5 (0,2147483647) (k,k) (k,2147483647) (0,0),offE],[0,0,0,0,0]) (6,0,2,0,0,0,0,0,0)=(true,[E5 (0,2147483647) (0,k) (0,2147483647) (0,2147483647),E5 (0,2147483647) (0,0) (0,0) (0,0),E5 (0,2147483647) (k,k) (0,0) (0,0),E5 (0,2147483647) (k,k) (k,2147483647) (0,0),offE],[1,0,0,0,0]):=have hst:=Z7u h1 h2
 Z7F t (X:=E5 (0,2147483647) (k,k) (k,2147483647) (k,2147483647)) (o3 t) (Z74 (fr:=3) (to:=0) (n:=0) (old:=E5 (0,0) (0,0) (0,0) (0,0)) (N:=E5 (0,2147483647) (0,k) (0,2147483647) (0,2147483647)) rfl rfl rfl (j5 (jnI (by omega) (by omega) (by omega) (by omega)) (jnI (by omega) (by omega) (by omega) (by omega)) (jnI (by omega) (by omega) (by omega) (by omega)) (jnI (by omega) (by omega) (by omega) (by omega))) (by decide) (by decide) (dd0 (by omega)))
theorem Z86 (h1:1≤k) (h2:k≤1000) (ht:t=0∨t=1) (hS:seenV (riS k) t false 0 0=(k,2147483647)) (b:Bool):nodeC (riU k) t (riS k) (Zt (riU k)) 4 (b,[E5 (0,2147483647) (0,k) (0,2147483647) (0,2147483647),E5 (0,2147483647) (0,0) (0,0) (0,0),E5 (0,2147483647) (k,k) (0,0) (0,0),E5 (0,2147483647) (k,k) (k,2147483647) (0,0),offE],[1,0,0,0,0]) (14,0,0,0,0,0,0,4,0)=(b,[E5 (0,2147483647) (0,k) (0,2147483647) (0,2147483647),E5 (0,2147483647) (0,0) (0,0) (0,0),E5 (0,2147483647) (k,k) (0,0) (0,0),E5 (0,2147483647) (k,k) (k,2147483647) (0,0),offE],[1,0,0,0,0]):=Z7U t rfl
theorem Z9t (h1:1≤k) (h2:k≤1000) (ht:t=0∨t=1) (hS:seenV (riS k) t false 0 0=(k,2147483647)):Z7E (riU k) t (riS k) (Zt (riU k)) (riC k) [E5 (0,0) (0,0) (0,0) (0,0),offE,offE,offE,offE] [0,0,0,0,0]=(true,[E5 (0,2147483647) (0,k) (0,2147483647) (0,2147483647),E5 (0,2147483647) (0,0) (0,0) (0,0),E5 (0,2147483647) (k,k) (0,0) (0,0),E5 (0,2147483647) (k,k) (k,2147483647) (0,0),offE],[1,0,0,0,0]):=Z7O rfl (Z82 h1 h2 ht hS _) (Z83 h1 h2 ht hS _) (Z84 h1 h2 ht hS _) (Z85 h1 h2 ht hS _) (Z86 h1 h2 ht hS _)
theorem Z87 (h1:1≤k) (h2:k≤1000) (ht:t=0∨t=1) (hS:seenV (riS k) t false 0 0=(k,2147483647)) (b:Bool):nodeC (riU k) t (riS k) (Zt (riU k)) 0 (b,[E5 (0,2147483647) (0,k) (0,2147483647) (0,2147483647),E5 (0,2147483647) (0,0) (0,0) (0,0),E5 (0,2147483647) (k,k) (0,0) (0,0),E5 (0,2147483647) (k,k) (k,2147483647) (0,0),offE],[1,0,0,0,0]) (5,0,0,0,0,0,0,1,0)=(true,[E5 (0,2147483647) (0,k) (0,2147483647) (0,2147483647),E5 (0,2147483647) (0,k) (0,2147483647) (0,2147483647),E5 (0,2147483647) (k,k) (0,0) (0,0),E5 (0,2147483647) (k,k) (k,2147483647) (0,0),offE],[1,0,0,0,0]):=have hst:=Z7u h1 h2
 Z7F t (X:=E5 (0,2147483647) (0,k) (0,2147483647) (0,2147483647)) (o0 (l:=(riS k)) t hS (by omega) (by omega) (by omega) (by omega)) (Z7I (fr:=0) (to:=1) (n:=0) (old:=E5 (0,2147483647) (0,0) (0,0) (0,0)) (N:=E5 (0,2147483647) (0,k) (0,2147483647) (0,2147483647)) rfl rfl rfl (j5 (jnI (by omega) (by omega) (by omega) (by omega)) (jnI (by omega) (by omega) (by omega) (by omega)) (jnI (by omega) (by omega) (by omega) (by omega)) (jnI (by omega) (by omega) (by omega) (by omega))) (by decide) (dd1 (by omega)))
theorem Z88 (h1:1≤k) (h2:k≤1000) (ht:t=0∨t=1) (hS:seenV (riS k) t false 0 0=(k,2147483647)) (b:Bool):nodeC (riU k) t (riS k) (Zt (riU k)) 1 (b,[E5 (0,2147483647) (0,k) (0,2147483647) (0,2147483647),E5 (0,2147483647) (0,k) (0,2147483647) (0,2147483647),E5 (0,2147483647) (k,k) (0,0) (0,0),E5 (0,2147483647) (k,k) (k,2147483647) (0,0),offE],[1,0,0,0,0]) (1,1,0,0,0,k,0,2,0)=(true,[E5 (0,2147483647) (0,k) (0,2147483647) (0,2147483647),E5 (0,2147483647) (0,k) (0,2147483647) (0,2147483647),E5 (0,2147483647) (k,k) (0,2147483647) (0,2147483647),E5 (0,2147483647) (k,k) (k,2147483647) (0,0),offE],[1,0,0,0,0]):=have hst:=Z7u h1 h2
 Z7F t (X:=E5 (0,2147483647) (k,k) (0,2147483647) (0,2147483647)) (o1 t) (Z7I (fr:=1) (to:=2) (n:=0) (old:=E5 (0,2147483647) (k,k) (0,0) (0,0)) (N:=E5 (0,2147483647) (k,k) (0,2147483647) (0,2147483647)) rfl rfl rfl (j5 (jnI (by omega) (by omega) (by omega) (by omega)) (jnI (by omega) (by omega) (by omega) (by omega)) (jnI (by omega) (by omega) (by omega) (by omega)) (jnI (by omega) (by omega) (by omega) (by omega))) (by decide) (dd2 (by omega)))
theorem Z89 (h1:1≤k) (h2:k≤1000) (ht:t=0∨t=1) (hS:seenV (riS k) t false 0 0=(k,2147483647)) (b:Bool):nodeC (riU k) t (riS k) (Zt (riU k)) 2 (b,[E5 (0,2147483647) (0,k) (0,2147483647) (0,2147483647),E5 (0,2147483647) (0,k) (0,2147483647) (0,2147483647),E5 (0,2147483647) (k,k) (0,2147483647) (0,2147483647),E5 (0,2147483647) (k,k) (k,2147483647) (0,0),offE],[1,0,0,0,0]) (4,2,0,1,0,0,1,3,0)=(true,[E5 (0,2147483647) (0,k) (0,2147483647) (0,2147483647),E5 (0,2147483647) (0,k) (0,2147483647) (0,2147483647),E5 (0,2147483647) (k,k) (0,2147483647) (0,2147483647),E5 (0,2147483647) (k,k) (k,2147483647) (0,2147483647),offE],[1,0,0,0,0]):=have hst:=Z7u h1 h2
 Z7F t (X:=E5 (0,2147483647) (k,k) (k,2147483647) (0,2147483647)) (o2b t (by omega) (by omega) (by omega) (by omega) (by omega) (by omega)) (Z7I (fr:=2) (to:=3) (n:=0) (old:=E5 (0,2147483647) (k,k) (k,2147483647) (0,0)) (N:=E5 (0,2147483647) (k,k) (k,2147483647) (0,2147483647)) rfl rfl rfl (j5 (jnI (by omega) (by omega) (by omega) (by omega)) (jnI (by omega) (by omega) (by omega) (by omega)) (jnI (by omega) (by omega) (by omega) (by omega)) (jnI (by omega) (by omega) (by omega) (by omega))) (by decide) (dd3 (by omega)))
theorem Z9a (h1:1≤k) (h2:k≤1000) (ht:t=0∨t=1) (hS:seenV (riS k) t false 0 0=(k,2147483647)) (b:Bool):nodeC (riU k) t (riS k) (Zt (riU k)) 3 (b,[E5 (0,2147483647) (0,k) (0,2147483647) (0,2147483647),E5 (0,2147483647) (0,k) (0,2147483647) (0,2147483647),E5 (0,2147483647) (k,k) (0,2147483647) (0,2147483647),E5 (0,2147483647) (k,k) (k,2147483647) (0,2147483647),offE],[1,0,0,0,0]) (6,0,2,0,0,0,0,0,0)=(b,[E5 (0,2147483647) (0,k) (0,2147483647) (0,2147483647),E5 (0,2147483647) (0,k) (0,2147483647) (0,2147483647),E5 (0,2147483647) (k,k) (0,2147483647) (0,2147483647),E5 (0,2147483647) (k,k) (k,2147483647) (0,2147483647),offE],[1,0,0,0,0]):=have hst:=Z7u h1 h2
 Z7X t (X:=E5 (0,2147483647) (k,k) (k,2147483647) (k,2147483647)) (o3 t) (Z8a (fr:=3) (to:=0) (n:=1) (old:=E5 (0,2147483647) (0,k) (0,2147483647) (0,2147483647)) rfl rfl rfl (j5 (jnI (by omega) (by omega) (by omega) (by omega)) (jnI (by omega) (by omega) (by omega) (by omega)) (jnI (by omega) (by omega) (by omega) (by omega)) (jnI (by omega) (by omega) (by omega) (by omega))) (by decide) (by decide))
theorem Z9b (h1:1≤k) (h2:k≤1000) (ht:t=0∨t=1) (hS:seenV (riS k) t false 0 0=(k,2147483647)) (b:Bool):nodeC (riU k) t (riS k) (Zt (riU k)) 4 (b,[E5 (0,2147483647) (0,k) (0,2147483647) (0,2147483647),E5 (0,2147483647) (0,k) (0,2147483647) (0,2147483647),E5 (0,2147483647) (k,k) (0,2147483647) (0,2147483647),E5 (0,2147483647) (k,k) (k,2147483647) (0,2147483647),offE],[1,0,0,0,0]) (14,0,0,0,0,0,0,4,0)=(b,[E5 (0,2147483647) (0,k) (0,2147483647) (0,2147483647),E5 (0,2147483647) (0,k) (0,2147483647) (0,2147483647),E5 (0,2147483647) (k,k) (0,2147483647) (0,2147483647),E5 (0,2147483647) (k,k) (k,2147483647) (0,2147483647),offE],[1,0,0,0,0]):=Z7U t rfl
theorem Z9u (h1:1≤k) (h2:k≤1000) (ht:t=0∨t=1) (hS:seenV (riS k) t false 0 0=(k,2147483647)):Z7E (riU k) t (riS k) (Zt (riU k)) (riC k) [E5 (0,2147483647) (0,k) (0,2147483647) (0,2147483647),E5 (0,2147483647) (0,0) (0,0) (0,0),E5 (0,2147483647) (k,k) (0,0) (0,0),E5 (0,2147483647) (k,k) (k,2147483647) (0,0),offE] [1,0,0,0,0]=(true,[E5 (0,2147483647) (0,k) (0,2147483647) (0,2147483647),E5 (0,2147483647) (0,k) (0,2147483647) (0,2147483647),E5 (0,2147483647) (k,k) (0,2147483647) (0,2147483647),E5 (0,2147483647) (k,k) (k,2147483647) (0,2147483647),offE],[1,0,0,0,0]):=Z7O rfl (Z87 h1 h2 ht hS _) (Z88 h1 h2 ht hS _) (Z89 h1 h2 ht hS _) (Z9a h1 h2 ht hS _) (Z9b h1 h2 ht hS _)
theorem Z9c (h1:1≤k) (h2:k≤1000) (ht:t=0∨t=1) (hS:seenV (riS k) t false 0 0=(k,2147483647)) (b:Bool):nodeC (riU k) t (riS k) (Zt (riU k)) 0 (b,[E5 (0,2147483647) (0,k) (0,2147483647) (0,2147483647),E5 (0,2147483647) (0,k) (0,2147483647) (0,2147483647),E5 (0,2147483647) (k,k) (0,2147483647) (0,2147483647),E5 (0,2147483647) (k,k) (k,2147483647) (0,2147483647),offE],[1,0,0,0,0]) (5,0,0,0,0,0,0,1,0)=(b,[E5 (0,2147483647) (0,k) (0,2147483647) (0,2147483647),E5 (0,2147483647) (0,k) (0,2147483647) (0,2147483647),E5 (0,2147483647) (k,k) (0,2147483647) (0,2147483647),E5 (0,2147483647) (k,k) (k,2147483647) (0,2147483647),offE],[1,0,0,0,0]):=have hst:=Z7u h1 h2
 Z7X t (X:=E5 (0,2147483647) (0,k) (0,2147483647) (0,2147483647)) (o0 (l:=(riS k)) t hS (by omega) (by omega) (by omega) (by omega)) (Z7Z (fr:=0) (to:=1) (n:=0) (old:=E5 (0,2147483647) (0,k) (0,2147483647) (0,2147483647)) rfl rfl rfl (j5 (jnI (by omega) (by omega) (by omega) (by omega)) (jnI (by omega) (by omega) (by omega) (by omega)) (jnI (by omega) (by omega) (by omega) (by omega)) (jnI (by omega) (by omega) (by omega) (by omega))) (by decide))
theorem Z9d (h1:1≤k) (h2:k≤1000) (ht:t=0∨t=1) (hS:seenV (riS k) t false 0 0=(k,2147483647)) (b:Bool):nodeC (riU k) t (riS k) (Zt (riU k)) 1 (b,[E5 (0,2147483647) (0,k) (0,2147483647) (0,2147483647),E5 (0,2147483647) (0,k) (0,2147483647) (0,2147483647),E5 (0,2147483647) (k,k) (0,2147483647) (0,2147483647),E5 (0,2147483647) (k,k) (k,2147483647) (0,2147483647),offE],[1,0,0,0,0]) (1,1,0,0,0,k,0,2,0)=(b,[E5 (0,2147483647) (0,k) (0,2147483647) (0,2147483647),E5 (0,2147483647) (0,k) (0,2147483647) (0,2147483647),E5 (0,2147483647) (k,k) (0,2147483647) (0,2147483647),E5 (0,2147483647) (k,k) (k,2147483647) (0,2147483647),offE],[1,0,0,0,0]):=have hst:=Z7u h1 h2
 Z7X t (X:=E5 (0,2147483647) (k,k) (0,2147483647) (0,2147483647)) (o1 t) (Z7Z (fr:=1) (to:=2) (n:=0) (old:=E5 (0,2147483647) (k,k) (0,2147483647) (0,2147483647)) rfl rfl rfl (j5 (jnI (by omega) (by omega) (by omega) (by omega)) (jnI (by omega) (by omega) (by omega) (by omega)) (jnI (by omega) (by omega) (by omega) (by omega)) (jnI (by omega) (by omega) (by omega) (by omega))) (by decide))
theorem Z9e (h1:1≤k) (h2:k≤1000) (ht:t=0∨t=1) (hS:seenV (riS k) t false 0 0=(k,2147483647)) (b:Bool):nodeC (riU k) t (riS k) (Zt (riU k)) 2 (b,[E5 (0,2147483647) (0,k) (0,2147483647) (0,2147483647),E5 (0,2147483647) (0,k) (0,2147483647) (0,2147483647),E5 (0,2147483647) (k,k) (0,2147483647) (0,2147483647),E5 (0,2147483647) (k,k) (k,2147483647) (0,2147483647),offE],[1,0,0,0,0]) (4,2,0,1,0,0,1,3,0)=(b,[E5 (0,2147483647) (0,k) (0,2147483647) (0,2147483647),E5 (0,2147483647) (0,k) (0,2147483647) (0,2147483647),E5 (0,2147483647) (k,k) (0,2147483647) (0,2147483647),E5 (0,2147483647) (k,k) (k,2147483647) (0,2147483647),offE],[1,0,0,0,0]):=have hst:=Z7u h1 h2
 Z7X t (X:=E5 (0,2147483647) (k,k) (k,2147483647) (0,2147483647)) (o2b t (by omega) (by omega) (by omega) (by omega) (by omega) (by omega)) (Z7Z (fr:=2) (to:=3) (n:=0) (old:=E5 (0,2147483647) (k,k) (k,2147483647) (0,2147483647)) rfl rfl rfl (j5 (jnI (by omega) (by omega) (by omega) (by omega)) (jnI (by omega) (by omega) (by omega) (by omega)) (jnI (by omega) (by omega) (by omega) (by omega)) (jnI (by omega) (by omega) (by omega) (by omega))) (by decide))
theorem Z9f (h1:1≤k) (h2:k≤1000) (ht:t=0∨t=1) (hS:seenV (riS k) t false 0 0=(k,2147483647)) (b:Bool):nodeC (riU k) t (riS k) (Zt (riU k)) 3 (b,[E5 (0,2147483647) (0,k) (0,2147483647) (0,2147483647),E5 (0,2147483647) (0,k) (0,2147483647) (0,2147483647),E5 (0,2147483647) (k,k) (0,2147483647) (0,2147483647),E5 (0,2147483647) (k,k) (k,2147483647) (0,2147483647),offE],[1,0,0,0,0]) (6,0,2,0,0,0,0,0,0)=(b,[E5 (0,2147483647) (0,k) (0,2147483647) (0,2147483647),E5 (0,2147483647) (0,k) (0,2147483647) (0,2147483647),E5 (0,2147483647) (k,k) (0,2147483647) (0,2147483647),E5 (0,2147483647) (k,k) (k,2147483647) (0,2147483647),offE],[1,0,0,0,0]):=have hst:=Z7u h1 h2
 Z7X t (X:=E5 (0,2147483647) (k,k) (k,2147483647) (k,2147483647)) (o3 t) (Z8a (fr:=3) (to:=0) (n:=1) (old:=E5 (0,2147483647) (0,k) (0,2147483647) (0,2147483647)) rfl rfl rfl (j5 (jnI (by omega) (by omega) (by omega) (by omega)) (jnI (by omega) (by omega) (by omega) (by omega)) (jnI (by omega) (by omega) (by omega) (by omega)) (jnI (by omega) (by omega) (by omega) (by omega))) (by decide) (by decide))
theorem Z9g (h1:1≤k) (h2:k≤1000) (ht:t=0∨t=1) (hS:seenV (riS k) t false 0 0=(k,2147483647)) (b:Bool):nodeC (riU k) t (riS k) (Zt (riU k)) 4 (b,[E5 (0,2147483647) (0,k) (0,2147483647) (0,2147483647),E5 (0,2147483647) (0,k) (0,2147483647) (0,2147483647),E5 (0,2147483647) (k,k) (0,2147483647) (0,2147483647),E5 (0,2147483647) (k,k) (k,2147483647) (0,2147483647),offE],[1,0,0,0,0]) (14,0,0,0,0,0,0,4,0)=(b,[E5 (0,2147483647) (0,k) (0,2147483647) (0,2147483647),E5 (0,2147483647) (0,k) (0,2147483647) (0,2147483647),E5 (0,2147483647) (k,k) (0,2147483647) (0,2147483647),E5 (0,2147483647) (k,k) (k,2147483647) (0,2147483647),offE],[1,0,0,0,0]):=Z7U t rfl
theorem Z9v (h1:1≤k) (h2:k≤1000) (ht:t=0∨t=1) (hS:seenV (riS k) t false 0 0=(k,2147483647)):Z7E (riU k) t (riS k) (Zt (riU k)) (riC k) [E5 (0,2147483647) (0,k) (0,2147483647) (0,2147483647),E5 (0,2147483647) (0,k) (0,2147483647) (0,2147483647),E5 (0,2147483647) (k,k) (0,2147483647) (0,2147483647),E5 (0,2147483647) (k,k) (k,2147483647) (0,2147483647),offE] [1,0,0,0,0]=(false,[E5 (0,2147483647) (0,k) (0,2147483647) (0,2147483647),E5 (0,2147483647) (0,k) (0,2147483647) (0,2147483647),E5 (0,2147483647) (k,k) (0,2147483647) (0,2147483647),E5 (0,2147483647) (k,k) (k,2147483647) (0,2147483647),offE],[1,0,0,0,0]):=Z7O rfl (Z9c h1 h2 ht hS _) (Z9d h1 h2 ht hS _) (Z9e h1 h2 ht hS _) (Z9f h1 h2 ht hS _) (Z9g h1 h2 ht hS _)
theorem Z81 (h1:1≤k) (h2:k≤1000) (ht:t=0∨t=1):runC (riU k) t [] (Zt (riU k)) (riC k) 100 (es0 (riU k) (riC k)) (ns0 (riC k)) 0 false=([E5 (0,2147483647) (0,k) (0,2147483647) (0,2147483647),E5 (0,2147483647) (0,k) (0,2147483647) (0,2147483647),E5 (0,2147483647) (k,k) (0,2147483647) (0,2147483647),E5 (0,2147483647) (k,k) (k,2147483647) (0,2147483647),offE],[4,0,0,0,0],6,true):=by
 rw [Z8o,Z8p]
 refine (Z7V (n:=99) (Z9n h1 h2 ht)).trans ?_
 refine (Z7V (n:=98) (Z9o h1 h2 ht)).trans ?_
 refine (Z7V (n:=97) (Z9p h1 h2 ht)).trans ?_
 refine (Z7V (n:=96) (Z9q h1 h2 ht)).trans ?_
 refine (Z7V (n:=95) (Z9r h1 h2 ht)).trans ?_
 refine (Z7V (n:=94) (Z9s h1 h2 ht)).trans ?_
 exact Z8r
theorem Z9i (h1:1≤k) (h2:k≤1000) (ht:t=0∨t=1) (hS:seenV (riS k) t false 0 0=(k,2147483647)):runC (riU k) t (riS k) (Zt (riU k)) (riC k) 100 (es0 (riU k) (riC k)) (ns0 (riC k)) 0 false=([E5 (0,2147483647) (0,k) (0,2147483647) (0,2147483647),E5 (0,2147483647) (0,k) (0,2147483647) (0,2147483647),E5 (0,2147483647) (k,k) (0,2147483647) (0,2147483647),E5 (0,2147483647) (k,k) (k,2147483647) (0,2147483647),offE],[1,0,0,0,0],3,true):=by
 rw [Z8o,Z8p]
 refine (Z7V (n:=99) (Z9t h1 h2 ht hS)).trans ?_
 refine (Z7V (n:=98) (Z9u h1 h2 ht hS)).trans ?_
 refine (Z7V (n:=97) (Z9v h1 h2 ht hS)).trans ?_
 exact Z8r
theorem Z80 (h1:1≤k) (h2:k≤1000) (ht:t=0∨t=1):∃ ac,gatC (riU k) t [] (riC k) [E5 (0,2147483647) (0,k) (0,2147483647) (0,2147483647),E5 (0,2147483647) (0,k) (0,2147483647) (0,2147483647),E5 (0,2147483647) (k,k) (0,2147483647) (0,2147483647),E5 (0,2147483647) (k,k) (k,2147483647) (0,2147483647),offE]=([(t,false,0,0,(k,2147483647))],ac,[(1,t,2,7,0,0)]):=by
 have o0_:=(show oV (riU k) t 0 (E5 (0,2147483647) (0,k) (0,2147483647) (0,2147483647)) [] (5,0,0,0,0,0,0,1,0)=(E5 (0,2147483647) (0,k) (0,2147483647) (0,2147483647),offE,[],[],[(t,0,false,0,false,0)]) from o0n t ht (by omega))
 have o1_:=(show oV (riU k) t 1 (E5 (0,2147483647) (0,k) (0,2147483647) (0,2147483647)) [] (1,1,0,0,0,k,0,2,0)=(E5 (0,2147483647) (k,k) (0,2147483647) (0,2147483647),offE,[],[],[]) from o1 t)
 have o2_:=(show oV (riU k) t 2 (E5 (0,2147483647) (k,k) (0,2147483647) (0,2147483647)) [] (4,2,0,1,0,0,1,3,0)=(E5 (0,2147483647) (k,k) (k,2147483647) (0,2147483647),offE,[7],[],[]) from o2b t (by omega) (by omega) (by omega) (by omega) (by omega) (by omega))
 have o3_:=(show oV (riU k) t 3 (E5 (0,2147483647) (k,k) (k,2147483647) (0,2147483647)) [] (6,0,2,0,0,0,0,0,0)=(E5 (0,2147483647) (k,k) (k,2147483647) (k,2147483647),offE,[],[(t,false,0,0,(k,2147483647))],[(t,3,false,0,true,0)]) from o3 t)
 exact Z8u o0_ o1_ o2_ o3_ (by omega)
theorem Z9h (h1:1≤k) (h2:k≤1000) (ht:t=0∨t=1) (hS:seenV (riS k) t false 0 0=(k,2147483647)):∃ ac,gatC (riU k) t (riS k) (riC k) [E5 (0,2147483647) (0,k) (0,2147483647) (0,2147483647),E5 (0,2147483647) (0,k) (0,2147483647) (0,2147483647),E5 (0,2147483647) (k,k) (0,2147483647) (0,2147483647),E5 (0,2147483647) (k,k) (k,2147483647) (0,2147483647),offE]=([(t,false,0,0,(k,2147483647))],ac,[(1,t,2,7,0,0)]):=by
 have o0_:=(show oV (riU k) t 0 (E5 (0,2147483647) (0,k) (0,2147483647) (0,2147483647)) (riS k) (5,0,0,0,0,0,0,1,0)=(E5 (0,2147483647) (0,k) (0,2147483647) (0,2147483647),offE,[],[],[(t,0,false,0,false,0)]) from o0 (l:=(riS k)) t hS (by omega) (by omega) (by omega) (by omega))
 have o1_:=(show oV (riU k) t 1 (E5 (0,2147483647) (0,k) (0,2147483647) (0,2147483647)) (riS k) (1,1,0,0,0,k,0,2,0)=(E5 (0,2147483647) (k,k) (0,2147483647) (0,2147483647),offE,[],[],[]) from o1 t)
 have o2_:=(show oV (riU k) t 2 (E5 (0,2147483647) (k,k) (0,2147483647) (0,2147483647)) (riS k) (4,2,0,1,0,0,1,3,0)=(E5 (0,2147483647) (k,k) (k,2147483647) (0,2147483647),offE,[7],[],[]) from o2b t (by omega) (by omega) (by omega) (by omega) (by omega) (by omega))
 have o3_:=(show oV (riU k) t 3 (E5 (0,2147483647) (k,k) (k,2147483647) (0,2147483647)) (riS k) (6,0,2,0,0,0,0,0,0)=(E5 (0,2147483647) (k,k) (k,2147483647) (k,2147483647),offE,[],[(t,false,0,0,(k,2147483647))],[(t,3,false,0,true,0)]) from o3 t)
 exact Z8u o0_ o1_ o2_ o3_ (by omega)
theorem Z8n {u:U} {c:C} {es:List E} {ns:List Int} {r:Int} {so:List En} {ac:List Ac} {al:List Al} (hr:runC u t l (Zt u) c 100 (es0 u c) (ns0 c) 0 false=(es,ns,r,true)) (hg:gatC u t l c es=(so,ac,al)):resC u t l c=(es,so,ac,al,r,true):=by
 unfold resC
 rw [hr]
 dsimp only
 rw [hg]
theorem Z8g (h1:1≤k) (h2:k≤1000) (ht:t=0∨t=1):∃ es ac r,resC (riU k) t [] (riC k)=(es,[(t,false,0,0,(k,2147483647))],ac,[(1,t,2,7,0,0)],r,true):=by
 obtain ⟨ac,g⟩:=Z80 h1 h2 ht
 exact ⟨_,ac,6,Z8n (Z81 h1 h2 ht) g⟩
theorem Z8h (h1:1≤k) (h2:k≤1000) (ht:t=0∨t=1) (hS:seenV (riS k) t false 0 0=(k,2147483647)):∃ es ac r,resC (riU k) t (riS k) (riC k)=(es,[(t,false,0,0,(k,2147483647))],ac,[(1,t,2,7,0,0)],r,true):=by
 obtain ⟨ac,g⟩:=Z9h h1 h2 ht hS
 exact ⟨_,ac,3,Z8n (Z9i h1 h2 ht hS) g⟩
theorem Z8b (hk:k≤2147483647):Zg nn (k,2147483647)=(k,2147483647):=by
 unfold Zg
 rw [show Zd nn=true from rfl,Z7v hk];rfl
theorem Z8l:seenV (riS k) 0 false 0 0=Zg nn (k,2147483647):=by kernel_rfl
theorem Z8m:seenV (riS k) 1 false 0 0=Zg nn (k,2147483647):=by kernel_rfl
theorem Z9w (h1:1≤k) (h2:k≤1000):unitOK (riU k)∧sumC (riU k).2.2.2≤45:=by
 refine ⟨ZUa (by rfl) (fun x hx=>by rw [List.mem_singleton.1 hx];rfl) fun c hc x hx=>?_,by show (10:Nat)≤45;decide⟩
 simp only [riU,List.mem_cons,List.not_mem_nil,or_false] at hc
 rcases hc with rfl | rfl <;>
 ·simp only [riC,List.mem_cons,List.not_mem_nil,or_false] at hx
  rcases hx with rfl | rfl | rfl | rfl | rfl
  ·rfl
  ·exact JH.2 (by show -2147483648≤k∧k≤2147483647;omega)
  ·rfl
  ·rfl
  ·rfl
theorem Z9j:pinT Zg (1,false,0,0,(k,2147483647)) [(0,false,0,0,(k,2147483647))]=riS k:=by kernel_rfl
theorem Z79 (hk:k≤2147483647):addT Zg [(0,false,0,0,(k,2147483647))] [(1,false,0,0,(k,2147483647))]=riS k:=by
 show stpT Zg [(0,false,0,0,(k,2147483647))] (1,false,0,0,(k,2147483647))=_
 unfold stpT
 rw [show Zd (vl (1,false,0,0,(k,2147483647)))=false from Z7v hk]
 exact Z9j
theorem Z8i (h1:1≤k) (h2:k≤1000):okA (t,false,0,0,(k,2147483647)):=
 ⟨Zjv (by omega) (by omega) (by omega),⟨Int.le_refl 0,by show (0:Int)<2147483648;decide⟩⟩
theorem Z9k (h1:1≤k) (h2:k≤1000):∃ R0 R1 S,Zfa (riU k)=some ([R0,R1],S,2,true)∧R0.2.2.2.1=[(1,0,2,7,0,0)]∧R1.2.2.2.1=[(1,1,2,7,0,0)]:=by
 obtain ⟨hu,h45⟩:=Z9w h1 h2
 have hk:k≤2147483647:=by omega
 have S0:addT Zg [] [((0,false,0,0,(k,2147483647)):En)]=[(0,false,0,0,(k,2147483647))]:=ZNz _ (Z7v hk)
 have k0:tabOK [((0,false,0,0,(k,2147483647)):En)]:=by rw [← S0];exact Zfk Zcb Za5 (fun x hx=>by rw [List.mem_singleton.1 hx];exact Z8i h1 h2)
 have hS:tabOK (riS k):=by rw [← Z79 hk];exact Zfk Zcb k0 (fun x hx=>by rw [List.mem_singleton.1 hx];exact Z8i h1 h2)
 have thr:∀ l,thrR (riU k) l 0 (riU k).2.2.2=[resV (riU k) ((0:Nat):Int) l (Zt (riU k)) (riC k),resV (riU k) ((1:Nat):Int) l (Zt (riU k)) (riC k)]:=fun l=>rfl
 obtain ⟨e0,a0,r0,p0⟩:=Z8g (t:=0) h1 h2 (.inl rfl)
 obtain ⟨e1,a1,r1,p1⟩:=Z8g (t:=1) h1 h2 (.inr rfl)
 obtain ⟨f0,b0,s0,q0⟩:=Z8h (t:=0) h1 h2 (.inl rfl) (Z8l.trans (Z8b hk))
 obtain ⟨f1,b1,s1,q1⟩:=Z8h (t:=1) h1 h2 (.inr rfl) (Z8m.trans (Z8b hk))
 have P0:resV (riU k) ((0:Nat):Int) [] (Zt (riU k)) (riC k)=_:=(Z77 hu (by decide) Za5 (by decide) rfl).trans p0
 have P1:resV (riU k) ((1:Nat):Int) [] (Zt (riU k)) (riC k)=_:=(Z77 hu (by decide) Za5 (by decide) rfl).trans p1
 have Q0:resV (riU k) ((0:Nat):Int) (riS k) (Zt (riU k)) (riC k)=_:=(Z77 hu (by decide) hS (by show (2:Nat)≤1000;decide) rfl).trans q0
 have Q1:resV (riU k) ((1:Nat):Int) (riS k) (Zt (riU k)) (riC k)=_:=(Z77 hu (by decide) hS (by show (2:Nat)≤1000;decide) rfl).trans q1
 have o:=ZXp (u:=riU k) hS (by simp [riS])
  (by
    rw [thr,P0,P1]
    show addT Zg (addT Zg [] [((0,false,0,0,(k,2147483647)):En)]) [(1,false,0,0,(k,2147483647))]=_
    rw [S0];exact Z79 hk)
  (by
    rw [thr,Q0,Q1]
    show addT Zg (addT Zg [] [((0,false,0,0,(k,2147483647)):En)]) [(1,false,0,0,(k,2147483647))]=_
    rw [S0];exact Z79 hk)
 obtain ⟨r1,_,_⟩:=Zxi hu h45
 refine ⟨(f0,[(0,false,0,0,(k,2147483647))],b0,[(1,0,2,7,0,0)],s0,true),(f1,[(1,false,0,0,(k,2147483647))],b1,[(1,1,2,7,0,0)],s1,true),riS k,?_,rfl,rfl⟩
 rw [r1]
 unfold outVV
 rw [o,thr,Q0,Q1]
 rfl
theorem Z9x {X Y:Type} {step:X→Option (X⊕Y)} {n:Nat} {x x':X} (h:step x=some (.inl x')):Zh step (n+1) x=Zh step n x':=by
 rw [Zh,h]
theorem Z9y {X Y:Type} {step:X→Option (X⊕Y)} {n:Nat} {x:X} {y:Y} (h:step x=some (.inr y)):Zh step (n+1) x=some y:=by
 rw [Zh,h]
theorem Z8s {R0 R1:Re} {S:List En} {q:Int} {d:Bool} (a0:R0.2.2.2.1=[(1,0,2,7,0,0)]) (a1:R1.2.2.2.1=[(1,1,2,7,0,0)]):Z7y (0,[R0,R1],S,q,d)=some (.inl ()):=by
 obtain ⟨x0,y0,z0,l0,q0⟩:=R0
 obtain ⟨x1,y1,z1,l1,q1⟩:=R1
 change l0=_ at a0
 change l1=_ at a1
 subst a0 a1
 have s0:Z7C 0 [(x0,y0,z0,[(1,0,2,7,0,0)],q0),(x1,y1,z1,[(1,1,2,7,0,0)],q1)] S q d=some (.inl (1,[(x0,y0,z0,[(1,0,2,7,0,0)],q0),(x1,y1,z1,[(1,1,2,7,0,0)],q1)],S,q,d)):=by kernel_rfl
 have s1:Z7C 1 [(x0,y0,z0,[(1,0,2,7,0,0)],q0),(x1,y1,z1,[(1,1,2,7,0,0)],q1)] S q d=some (.inl (2,[(x0,y0,z0,[(1,0,2,7,0,0)],q0),(x1,y1,z1,[(1,1,2,7,0,0)],q1)],S,q,d)):=by kernel_rfl
 have s2:Z7C 2 [(x0,y0,z0,[(1,0,2,7,0,0)],q0),(x1,y1,z1,[(1,1,2,7,0,0)],q1)] S q d=some (.inr (.inl ())):=by kernel_rfl
 unfold Z7y
 rw [show Zl=Zl - 3+1+1+1 by unfold Zl;omega]
 refine Eq.trans (Z9x (x':=(1,[(x0,y0,z0,[(1,0,2,7,0,0)],q0),(x1,y1,z1,[(1,1,2,7,0,0)],q1)],S,q,d)) ?_) ?_
 ·exact s0
 refine Eq.trans (Z9x (x':=(2,[(x0,y0,z0,[(1,0,2,7,0,0)],q0),(x1,y1,z1,[(1,1,2,7,0,0)],q1)],S,q,d)) ?_) ?_
 ·exact s1
 exact Z9y s2
theorem Z9m (n:Int):Z7L n=some true:=by
 unfold Z7L
 by_cases h1:n<1
 ·rw [dT0 h1];rfl
 by_cases h2:n>1000
 ·rw [dF0 h1,dT0 h2];rfl
 rw [dF0 h1,dF0 h2]
 simp only [cond_false]
 obtain ⟨R0,R1,S,r,a0,a1⟩:=Z9k (k:=n) (by omega) (by omega)
 have fin:∀ F:RRe→Option Bool,(F=fun d3=>bif !d3.2.2.2 then some false else bif (d3.1.length:Int) !=2 then some false else Za (Z7y (0,d3)) none fun d4=>Sum.elim (fun _=>Za (ZQ ()) none fun d6=>some d6) (fun e5=>some e5) d4)→Za (Zfa (riU n)) none F=some true:=fun F hF=>by
  subst hF
  rw [r]
  simp only [Zb,Bool.not_true,cond_false,Z8s a0 a1,Sum.elim_inl]
  show (bif false then _ else Za Vm none fun d6=>some d6)=_
  rw [ZsE];rfl
 exact fin _ rfl
end
end
end
end Go.Proofs.YtbdcblpjemmipaaGreat.Ex
