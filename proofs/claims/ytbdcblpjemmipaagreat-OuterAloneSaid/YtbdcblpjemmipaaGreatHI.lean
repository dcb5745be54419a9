/- A part of the proofs of what is known of threads: HI. -/
import Derived.Test.YtbdcblpjemmipaaGreatHF
import Derived.Test.YtbdcblpjemmipaaGreatHH
import Derived.Test.YtbdcblpjemmipaaGreatHG
import Derived.Test.YtbdcblpjemmipaaGreatHD
namespace Go.Proofs.YtbdcblpjemmipaaGreat.Ex
open Go.Proofs
set_option maxRecDepth 100000
set_option maxHeartbeats 4000000
set_option linter.unusedVariables false
set_option linter.unusedSimpArgs false
set_option linter.unusedSectionVars false
noncomputable section
abbrev ZnN:Type:=(Bool×(List Int)×(List Int)×Int×(List C)×Int×(List En)×(List A)×(List Int)×(List E)×(List Int))
def ZaY (b0:Int) (b0_1:Bool) (b4:Int) (b4_1:Bool) (s12:List A) (i:Nat) (s3:Bool) (b1 b1_1:List Int) (b1_2:Int) (b1_3:List C) (b1_4:Int) (b1_5:List En) (b1_6:List A) (b1_7:List Int) (b2:List E) (b3:List Int) (d:A):Option (ZnN⊕Yf):=
 Za b2[i]? (none) fun d25=>
  Za b2[i]? (none) fun d26=>
  Za (Ze6 ((b1,b1_1,b1_2,b1_3),b1_4,(i:Int),d26,b1_5,())) (none) fun d27=>
  Za (ZaU ((),(i:Int),d.2.2.2.2.2.2.2.1,d27.1,()) ((b1,b1_1,b1_2,b1_3,b1_4,b1_5,b1_6,(),(),b1_7,()),b2,b3,())) (none) fun d28=>
  Za (ZaU ((),(i:Int),d.2.2.2.2.2.2.2.2,d27.2.1,()) ((d28.2.1.1,d28.2.1.2.1,d28.2.1.2.2.1,d28.2.1.2.2.2.1,d28.2.1.2.2.2.2.1,d28.2.1.2.2.2.2.2.1,d28.2.1.2.2.2.2.2.2.1,(),(),d28.2.1.2.2.2.2.2.2.2.2.2.1,()),d28.2.2.1,d28.2.2.2.1,())) (none) fun d29=>
  bif s3 then
  some (.inl (true,d29.2.1.1,d29.2.1.2.1,d29.2.1.2.2.1,d29.2.1.2.2.2.1,d29.2.1.2.2.2.2.1,d29.2.1.2.2.2.2.2.1,d29.2.1.2.2.2.2.2.2.1,d29.2.1.2.2.2.2.2.2.2.2.2.1,d29.2.2.1,d29.2.2.2.1))
 else bif d28.1 then
  some (.inl (true,d29.2.1.1,d29.2.1.2.1,d29.2.1.2.2.1,d29.2.1.2.2.2.1,d29.2.1.2.2.2.2.1,d29.2.1.2.2.2.2.2.1,d29.2.1.2.2.2.2.2.2.1,d29.2.1.2.2.2.2.2.2.2.2.2.1,d29.2.2.1,d29.2.2.2.1))
 else some (.inl (d29.1,d29.2.1.1,d29.2.1.2.1,d29.2.1.2.2.1,d29.2.1.2.2.2.1,d29.2.1.2.2.2.2.1,d29.2.1.2.2.2.2.2.1,d29.2.1.2.2.2.2.2.2.1,d29.2.1.2.2.2.2.2.2.2.2.2.1,d29.2.2.1,d29.2.2.2.1))
def Zn2 (b0:Int) (b0_1:Bool) (b4:Int) (b4_1:Bool) (s12:List A) (s3:Bool) (b1 b1_1:List Int) (b1_2:Int) (b1_3:List C) (b1_4:Int) (b1_5:List En) (b1_6:List A) (b1_7:List Int) (b2:List E) (b3:List Int):Option Yf:=
 some (s3,b0,b0_1,b1,b1_1,b1_2,b1_3,b1_4,b1_5,b1_6,b1_7,b2,b3,b4,b4_1)
abbrev ZJR (b0:Int) (b0_1:Bool) (b4:Int) (b4_1:Bool) (s12:List A) (i:Nat) (s:ZnN):Zb3:=(s.1,s12,(s12.length:Int),(i:Int),b0,b0_1,s.2.1,s.2.2.1,s.2.2.2.1,s.2.2.2.2.1,s.2.2.2.2.2.1,s.2.2.2.2.2.2.1,s.2.2.2.2.2.2.2.1,s.2.2.2.2.2.2.2.2.1,s.2.2.2.2.2.2.2.2.2.1,s.2.2.2.2.2.2.2.2.2.2,b4,b4_1)
def Zok (b0:Int) (b0_1:Bool) (b4:Int) (b4_1:Bool) (s12:List A) (s:ZnN):Option Yf:=Zp (fun i s d=>ZaY b0 b0_1 b4 b4_1 s12 i s.1 s.2.1 s.2.2.1 s.2.2.2.1 s.2.2.2.2.1 s.2.2.2.2.2.1 s.2.2.2.2.2.2.1 s.2.2.2.2.2.2.2.1 s.2.2.2.2.2.2.2.2.1 s.2.2.2.2.2.2.2.2.2.1 s.2.2.2.2.2.2.2.2.2.2 d) (fun s=>Zn2 b0 b0_1 b4 b4_1 s12 s.1 s.2.1 s.2.2.1 s.2.2.2.1 s.2.2.2.2.1 s.2.2.2.2.2.1 s.2.2.2.2.2.2.1 s.2.2.2.2.2.2.2.1 s.2.2.2.2.2.2.2.2.1 s.2.2.2.2.2.2.2.2.2.1 s.2.2.2.2.2.2.2.2.2.2) 0 s12 s
theorem ZJL (b0:Int) (b0_1:Bool) (b4:Int) (b4_1:Bool) (s12:List A) (s:ZnN) (hl:s12.length<9223372036854775807):Zfr (s.1,s12,(s12.length:Int),0,b0,b0_1,s.2.1,s.2.2.1,s.2.2.2.1,s.2.2.2.2.1,s.2.2.2.2.2.1,s.2.2.2.2.2.2.1,s.2.2.2.2.2.2.2.1,s.2.2.2.2.2.2.2.2.1,s.2.2.2.2.2.2.2.2.2.1,s.2.2.2.2.2.2.2.2.2.2,b4,b4_1)=Zok b0 b0_1 b4 b4_1 s12 s:=by
 unfold Zfr Zok
 refine Zs s12 (ZJR b0 b0_1 b4 b4_1 s12) _ _ ?_ ?_ s (by unfold Zl;omega)
 ·intro i s d hi hd
  have e1:decide ((i:Int)<(s12.length:Int))=true:=dT0 (by omega)
  have e2:decide (0≤(i:Int))=true:=dT0 (by omega)
  have e3:Int.toNat (i:Int)=i:=tN0 i
  have e4:=Zq hi (Nat.le_of_lt hl)
  show ZdZ (s.1) (s12) ((s12.length:Int)) ((i:Int)) (b0) (b0_1) (s.2.1) (s.2.2.1) (s.2.2.2.1) (s.2.2.2.2.1) (s.2.2.2.2.2.1) (s.2.2.2.2.2.2.1) (s.2.2.2.2.2.2.2.1) (s.2.2.2.2.2.2.2.2.1) (s.2.2.2.2.2.2.2.2.2.1) (s.2.2.2.2.2.2.2.2.2.2) (b4) (b4_1)=upd _ (ZaY b0 b0_1 b4 b4_1 s12 i s.1 s.2.1 s.2.2.1 s.2.2.2.1 s.2.2.2.2.1 s.2.2.2.2.2.1 s.2.2.2.2.2.2.1 s.2.2.2.2.2.2.2.1 s.2.2.2.2.2.2.2.2.1 s.2.2.2.2.2.2.2.2.2.1 s.2.2.2.2.2.2.2.2.2.2 d)
  unfold ZdZ ZaY
  simp only [e1,e2,e3,e4,hd,cond_true,cond_false,Zb,ZC,ZF,ZD,ZI,ZJ,ZE]
 ·intro s
  have e1:decide ((s12.length:Int)<(s12.length:Int))=false:=dF0 (by omega)
  show ZdZ (s.1) (s12) ((s12.length:Int)) ((s12.length:Int)) (b0) (b0_1) (s.2.1) (s.2.2.1) (s.2.2.2.1) (s.2.2.2.2.1) (s.2.2.2.2.2.1) (s.2.2.2.2.2.2.1) (s.2.2.2.2.2.2.2.1) (s.2.2.2.2.2.2.2.2.1) (s.2.2.2.2.2.2.2.2.2.1) (s.2.2.2.2.2.2.2.2.2.2) (b4) (b4_1)=_
  unfold ZdZ Zn2
  rw [e1]
  rfl
def Zi2 (s1 s2 s13 s14:Int) (b32153036021279864200481066319758226432430515945481:List O) (b8:Bool) (b8_1 b8_2 b8_3:List I) (b8_4 b8_5:Int) (b8_6:Bool) (b8_7 b8_8 b8_9:List I) (b8_10 b8_11:Int) (b8_12:List Int) (b8_13:List En) (b8_14:List Ac) (b0:Int) (b0_1:Bool) (b1 b1_1:List Int) (b1_2:Int) (b1_3:List C) (b1_4:Int) (b1_5:List En) (b1_6:List A) (b1_7:List Int) (b2:List E) (b3:List Int) (b4:Int) (b4_1:Bool) (b32153036021279864200481066319758226432430515945482:List En) (b32153036021279864200481066319758226432430515945483:List Ac) (s39:List Int) (i:Nat) (b32153036021279864200481066319758226432430515945484:List Al) (d:Int):Option ((List Al)⊕Yg):=
 bif decide ((b32153036021279864200481066319758226432430515945484.length+[(1,s1,s2,d,0,0)].length+1)*48≤lim) then
  some (.inl (b32153036021279864200481066319758226432430515945484++[(1,s1,s2,d,0,0)]))
 else none
def Zn3 (s1 s2 s13 s14:Int) (b32153036021279864200481066319758226432430515945481:List O) (b8:Bool) (b8_1 b8_2 b8_3:List I) (b8_4 b8_5:Int) (b8_6:Bool) (b8_7 b8_8 b8_9:List I) (b8_10 b8_11:Int) (b8_12:List Int) (b8_13:List En) (b8_14:List Ac) (b0:Int) (b0_1:Bool) (b1 b1_1:List Int) (b1_2:Int) (b1_3:List C) (b1_4:Int) (b1_5:List En) (b1_6:List A) (b1_7:List Int) (b2:List E) (b3:List Int) (b4:Int) (b4_1:Bool) (b32153036021279864200481066319758226432430515945482:List En) (b32153036021279864200481066319758226432430515945483:List Ac) (s39:List Int) (b32153036021279864200481066319758226432430515945484:List Al):Option Yg:=
 some (s1,s2,s13,s14,b32153036021279864200481066319758226432430515945481,b8,b8_1,b8_2,b8_3,b8_4,b8_5,b8_6,b8_7,b8_8,b8_9,b8_10,b8_11,b8_12,b8_13,b8_14,b0,b0_1,b1,b1_1,b1_2,b1_3,b1_4,b1_5,b1_6,b1_7,b2,b3,b4,b4_1,b32153036021279864200481066319758226432430515945482,b32153036021279864200481066319758226432430515945483,b32153036021279864200481066319758226432430515945484)
abbrev ZJS (s1 s2 s13 s14:Int) (b32153036021279864200481066319758226432430515945481:List O) (b8:Bool) (b8_1 b8_2 b8_3:List I) (b8_4 b8_5:Int) (b8_6:Bool) (b8_7 b8_8 b8_9:List I) (b8_10 b8_11:Int) (b8_12:List Int) (b8_13:List En) (b8_14:List Ac) (b0:Int) (b0_1:Bool) (b1 b1_1:List Int) (b1_2:Int) (b1_3:List C) (b1_4:Int) (b1_5:List En) (b1_6:List A) (b1_7:List Int) (b2:List E) (b3:List Int) (b4:Int) (b4_1:Bool) (b32153036021279864200481066319758226432430515945482:List En) (b32153036021279864200481066319758226432430515945483:List Ac) (s39:List Int) (i:Nat) (s:List Al):Zb4:=(s1,s2,s13,s14,s39,(s39.length:Int),(i:Int),b32153036021279864200481066319758226432430515945481,b8,b8_1,b8_2,b8_3,b8_4,b8_5,b8_6,b8_7,b8_8,b8_9,b8_10,b8_11,b8_12,b8_13,b8_14,b0,b0_1,b1,b1_1,b1_2,b1_3,b1_4,b1_5,b1_6,b1_7,b2,b3,b4,b4_1,b32153036021279864200481066319758226432430515945482,b32153036021279864200481066319758226432430515945483,s)
def Zol (s1 s2 s13 s14:Int) (b32153036021279864200481066319758226432430515945481:List O) (b8:Bool) (b8_1 b8_2 b8_3:List I) (b8_4 b8_5:Int) (b8_6:Bool) (b8_7 b8_8 b8_9:List I) (b8_10 b8_11:Int) (b8_12:List Int) (b8_13:List En) (b8_14:List Ac) (b0:Int) (b0_1:Bool) (b1 b1_1:List Int) (b1_2:Int) (b1_3:List C) (b1_4:Int) (b1_5:List En) (b1_6:List A) (b1_7:List Int) (b2:List E) (b3:List Int) (b4:Int) (b4_1:Bool) (b32153036021279864200481066319758226432430515945482:List En) (b32153036021279864200481066319758226432430515945483:List Ac) (s39:List Int) (s:List Al):Option Yg:=Zp (fun i s d=>Zi2 s1 s2 s13 s14 b32153036021279864200481066319758226432430515945481 b8 b8_1 b8_2 b8_3 b8_4 b8_5 b8_6 b8_7 b8_8 b8_9 b8_10 b8_11 b8_12 b8_13 b8_14 b0 b0_1 b1 b1_1 b1_2 b1_3 b1_4 b1_5 b1_6 b1_7 b2 b3 b4 b4_1 b32153036021279864200481066319758226432430515945482 b32153036021279864200481066319758226432430515945483 s39 i s d) (fun s=>Zn3 s1 s2 s13 s14 b32153036021279864200481066319758226432430515945481 b8 b8_1 b8_2 b8_3 b8_4 b8_5 b8_6 b8_7 b8_8 b8_9 b8_10 b8_11 b8_12 b8_13 b8_14 b0 b0_1 b1 b1_1 b1_2 b1_3 b1_4 b1_5 b1_6 b1_7 b2 b3 b4 b4_1 b32153036021279864200481066319758226432430515945482 b32153036021279864200481066319758226432430515945483 s39 s) 0 s39 s
theorem ZJM (s1 s2 s13 s14:Int) (b32153036021279864200481066319758226432430515945481:List O) (b8:Bool) (b8_1 b8_2 b8_3:List I) (b8_4 b8_5:Int) (b8_6:Bool) (b8_7 b8_8 b8_9:List I) (b8_10 b8_11:Int) (b8_12:List Int) (b8_13:List En) (b8_14:List Ac) (b0:Int) (b0_1:Bool) (b1 b1_1:List Int) (b1_2:Int) (b1_3:List C) (b1_4:Int) (b1_5:List En) (b1_6:List A) (b1_7:List Int) (b2:List E) (b3:List Int) (b4:Int) (b4_1:Bool) (b32153036021279864200481066319758226432430515945482:List En) (b32153036021279864200481066319758226432430515945483:List Ac) (s39:List Int) (s:List Al) (hl:s39.length<9223372036854775807):Zks (s1,s2,s13,s14,s39,(s39.length:Int),0,b32153036021279864200481066319758226432430515945481,b8,b8_1,b8_2,b8_3,b8_4,b8_5,b8_6,b8_7,b8_8,b8_9,b8_10,b8_11,b8_12,b8_13,b8_14,b0,b0_1,b1,b1_1,b1_2,b1_3,b1_4,b1_5,b1_6,b1_7,b2,b3,b4,b4_1,b32153036021279864200481066319758226432430515945482,b32153036021279864200481066319758226432430515945483,s)=Zol s1 s2 s13 s14 b32153036021279864200481066319758226432430515945481 b8 b8_1 b8_2 b8_3 b8_4 b8_5 b8_6 b8_7 b8_8 b8_9 b8_10 b8_11 b8_12 b8_13 b8_14 b0 b0_1 b1 b1_1 b1_2 b1_3 b1_4 b1_5 b1_6 b1_7 b2 b3 b4 b4_1 b32153036021279864200481066319758226432430515945482 b32153036021279864200481066319758226432430515945483 s39 s:=by
 unfold Zks Zol
 refine Zs s39 (ZJS s1 s2 s13 s14 b32153036021279864200481066319758226432430515945481 b8 b8_1 b8_2 b8_3 b8_4 b8_5 b8_6 b8_7 b8_8 b8_9 b8_10 b8_11 b8_12 b8_13 b8_14 b0 b0_1 b1 b1_1 b1_2 b1_3 b1_4 b1_5 b1_6 b1_7 b2 b3 b4 b4_1 b32153036021279864200481066319758226432430515945482 b32153036021279864200481066319758226432430515945483 s39) _ _ ?_ ?_ s (by unfold Zl;omega)
 ·intro i s d hi hd
  have e1:decide ((i:Int)<(s39.length:Int))=true:=dT0 (by omega)
  have e2:decide (0≤(i:Int))=true:=dT0 (by omega)
  have e3:Int.toNat (i:Int)=i:=tN0 i
  have e4:=Zq hi (Nat.le_of_lt hl)
  show Zd0 (s1) (s2) (s13) (s14) (s39) ((s39.length:Int)) ((i:Int)) (b32153036021279864200481066319758226432430515945481) (b8) (b8_1) (b8_2) (b8_3) (b8_4) (b8_5) (b8_6) (b8_7) (b8_8) (b8_9) (b8_10) (b8_11) (b8_12) (b8_13) (b8_14) (b0) (b0_1) (b1) (b1_1) (b1_2) (b1_3) (b1_4) (b1_5) (b1_6) (b1_7) (b2) (b3) (b4) (b4_1) (b32153036021279864200481066319758226432430515945482) (b32153036021279864200481066319758226432430515945483) (s)=upd _ (Zi2 s1 s2 s13 s14 b32153036021279864200481066319758226432430515945481 b8 b8_1 b8_2 b8_3 b8_4 b8_5 b8_6 b8_7 b8_8 b8_9 b8_10 b8_11 b8_12 b8_13 b8_14 b0 b0_1 b1 b1_1 b1_2 b1_3 b1_4 b1_5 b1_6 b1_7 b2 b3 b4 b4_1 b32153036021279864200481066319758226432430515945482 b32153036021279864200481066319758226432430515945483 s39 i s d)
  unfold Zd0 Zi2
  simp only [e1,e2,e3,e4,hd,cond_true,cond_false,Zb,ZC,ZF,ZD,ZI,ZJ,ZE]
 ·intro s
  have e1:decide ((s39.length:Int)<(s39.length:Int))=false:=dF0 (by omega)
  show Zd0 (s1) (s2) (s13) (s14) (s39) ((s39.length:Int)) ((s39.length:Int)) (b32153036021279864200481066319758226432430515945481) (b8) (b8_1) (b8_2) (b8_3) (b8_4) (b8_5) (b8_6) (b8_7) (b8_8) (b8_9) (b8_10) (b8_11) (b8_12) (b8_13) (b8_14) (b0) (b0_1) (b1) (b1_1) (b1_2) (b1_3) (b1_4) (b1_5) (b1_6) (b1_7) (b2) (b3) (b4) (b4_1) (b32153036021279864200481066319758226432430515945482) (b32153036021279864200481066319758226432430515945483) (s)=_
  unfold Zd0 Zn3
  rw [e1]
  rfl
abbrev Zx6:Type:=(Int×(List En)×(List A)×Int×Int×(List Int)×(List Int)×Int×(List C)×Int×Bool×(List Int)×(List E)×(List Int)×Int×Bool×(List En)×(List Ac)×(List Al)×Bool×(List I)×(List I)×(List I)×Int×Int×Bool×(List I)×(List I)×(List I)×Int×Int×(List Int)×(List En)×(List Ac))
abbrev Zla:Type:=(Int×(List En)×(List A)×Int×(List Int)×(List Int)×Int×(List C)×Int×Bool×(List Int)×(List E)×(List Int)×Int×Bool×(List En)×(List Ac)×(List Al))
abbrev Zx7:Type:=(Int×(List En)×(List A)×Bool×Int×(List Int)×(List Int)×Int×(List C)×Int×Bool×(List Int)×(List E)×(List Int)×Int×Bool)
abbrev Zx8:Type:=(Int×(List En)×(List A)×Bool×(List Int)×(List Int)×Int×(List C)×Int×Bool×(List Int)×(List E)×(List Int)×Int×Bool)
abbrev Zlb:Type:=(Int×(List En)×(List A)×(List Int)×(List Int)×Int×(List C)×Int×Bool×(List Int)×(List E)×(List Int)×Int×Bool)
abbrev Zx9:Type:=(Int×Bool×(List Int)×(List E)×(List Int)×Int×Bool×(List En)×(List Ac)×(List Al))
abbrev VI:=Zx7
abbrev Ka:=Zx8
def ZbM (s1:Int) (s2:List En) (s7:List A) (s10:Bool) (s11:Int) (b0 b0_1:List Int) (b0_2:Int) (b0_3:List C) (b1:Int) (b1_1:Bool) (b2:List Int) (b3:List E) (b4:List Int) (b5:Int) (b5_1:Bool):Option (Zx7⊕Zx8):=bif decide (s11<(s7.length:Int)) then bif decide (0≤s11) then Za b3[s11.toNat]? none fun d21=>Za b3[s11.toNat]? none fun d22=>Za (Zce ((b0,b0_1,b0_2,b0_3),s1,s11,d22,s2,())) none fun d23=>bif decide (0≤s11) then Za s7[s11.toNat]? none fun d24=>Za (Vt ((),s11,d24.2.2.2.2.2.2.2.1,d23.1,()) (((),(),b2,()),b3,b4,())) none fun d25=>bif decide (0≤s11) then Za s7[s11.toNat]? none fun d26=>Za (Vt ((),s11,d26.2.2.2.2.2.2.2.2,d23.2.1,()) (((),(),d25.2.1.2.2.1,()),d25.2.2.1,d25.2.2.2.1,())) none fun d27=>bif s10 then some (.inl (s1,s2,s7,true,IntKind.i64.wrap (s11+1),b0,b0_1,b0_2,b0_3,b1,b1_1,d27.2.1.2.2.1,d27.2.2.1,d27.2.2.2.1,b5,b5_1)) else bif d25.1 then some (.inl (s1,s2,s7,true,IntKind.i64.wrap (s11+1),b0,b0_1,b0_2,b0_3,b1,b1_1,d27.2.1.2.2.1,d27.2.2.1,d27.2.2.2.1,b5,b5_1)) else some (.inl (s1,s2,s7,d27.1,IntKind.i64.wrap (s11+1),b0,b0_1,b0_2,b0_3,b1,b1_1,d27.2.1.2.2.1,d27.2.2.1,d27.2.2.2.1,b5,b5_1)) else none else none else none else some (.inr (s1,s2,s7,s10,b0,b0_1,b0_2,b0_3,b1,b1_1,b2,b3,b4,b5,b5_1))
def Zr7:VI→Option (VI⊕Ka):=fun (a,b,c,d,e,f,g,h,i,j,k,l,m,n,o,p)=>ZbM a b c d e f g h i j k l m n o p
def ZcF (x:VI):Option Ka:=Zh Zr7 Zl x
abbrev ZcN:=Zlb
abbrev Zel:=Zlb
def Zgx (s1:Int) (s2:List En) (s7:List A) (b0 b0_1:List Int) (b0_2:Int) (b0_3:List C) (b1:Int) (b1_1:Bool) (b2:List Int) (b3:List E) (b4:List Int) (b5:Int) (b5_1:Bool):Option (Zlb⊕Zlb):=bif !b5_1 then bif decide (b5<100) then Za (ZcF (s1,s2,s7,false,0,b0,b0_1,b0_2,b0_3,b1,b1_1,b2,b3,b4,b5,b5_1)) none fun d19=>some (.inl (d19.1,d19.2.1,d19.2.2.1,d19.2.2.2.2.1,d19.2.2.2.2.2.1,d19.2.2.2.2.2.2.1,d19.2.2.2.2.2.2.2.1,d19.2.2.2.2.2.2.2.2.1,d19.2.2.2.2.2.2.2.2.2.1,d19.2.2.2.2.2.2.2.2.2.2.1,d19.2.2.2.2.2.2.2.2.2.2.2.1,d19.2.2.2.2.2.2.2.2.2.2.2.2.1,IntKind.i64.wrap (d19.2.2.2.2.2.2.2.2.2.2.2.2.2.1+1),!d19.2.2.2.1)) else some (.inr (s1,s2,s7,b0,b0_1,b0_2,b0_3,b1,b1_1,b2,b3,b4,b5,b5_1)) else some (.inr (s1,s2,s7,b0,b0_1,b0_2,b0_3,b1,b1_1,b2,b3,b4,b5,b5_1))
def HM:ZcN→Option (ZcN⊕Zel):=fun (a,b,c,d,e,f,g,h,i,j,k,l,m,n)=>Zgx a b c d e f g h i j k l m n
def Zhm (x:ZcN):Option Zel:=Zh HM Zl x
abbrev VJ:=Zx6
abbrev Kb:=Zla
def ZbN (s1:Int) (s2:List En) (s7:List A) (s15 s17:Int) (b0 b0_1:List Int) (b0_2:Int) (b0_3:List C) (b1:Int) (b1_1:Bool) (b2:List Int) (b3:List E) (b4:List Int) (b5:Int) (b5_1:Bool) (b6:List En) (b7:List Ac) (b8:List Al) (b9:Bool) (b9_1 b9_2 b9_3:List I) (b9_4 b9_5:Int) (b9_6:Bool) (b9_7 b9_8 b9_9:List I) (b9_10 b9_11:Int) (b9_12:List Int) (b9_13:List En) (b9_14:List Ac):Option (Zx6⊕Zla):=bif decide (s17<(b9_12.length:Int)) then bif decide (0≤s17) then Za b9_12[s17.toNat]? none fun d39=>bif decide ((b8.length+[(1,s1,s15,d39,0,0)].length+1)*48≤lim) then some (.inl (s1,s2,s7,s15,IntKind.i64.wrap (s17+1),b0,b0_1,b0_2,b0_3,b1,b1_1,b2,b3,b4,b5,b5_1,b6,b7,b8++[(1,s1,s15,d39,0,0)],b9,b9_1,b9_2,b9_3,b9_4,b9_5,b9_6,b9_7,b9_8,b9_9,b9_10,b9_11,b9_12,b9_13,b9_14)) else none else none else some (.inr (s1,s2,s7,s15,b0,b0_1,b0_2,b0_3,b1,b1_1,b2,b3,b4,b5,b5_1,b6,b7,b8))
def Zr8:VJ→Option (VJ⊕Kb):=fun (a,b,c,d,e,f,g,h,i,j,k,l,m,n,o,p,q,r,s,t,u,w,y,z,au,aw,ay,az,bu,bw,bz,cu,cw,cy)=>ZbN a b c d e f g h i j k l m n o p q r s t u w y z au aw ay az bu bw bz cu cw cy
def ZcG (x:VJ):Option Kb:=Zh Zr8 Zl x
abbrev ZcO:=Zla
abbrev Zem:=Zx9
def Zmc (s1:Int) (s2:List En) (s7:List A) (s15:Int) (b0 b0_1:List Int) (b0_2:Int) (b0_3:List C) (b1:Int) (b1_1:Bool) (b2:List Int) (b3:List E) (b4:List Int) (b5:Int) (b5_1:Bool) (b6:List En) (b7:List Ac) (b8:List Al):Option (Zla⊕Zx9):=bif decide (s15<(s7.length:Int)) then bif decide (0≤s15) then Za b3[s15.toNat]? none fun d23=>Za b3[s15.toNat]? none fun d24=>Za (Zce ((b0,b0_1,b0_2,b0_3),s1,s15,d24,s2,())) none fun d25=>Za (Kx (b6,d25.2.2.2.1,())) none fun d26=>bif decide ((b7.length+List.length d25.2.2.2.2+1)*48≤lim) then Za (ZcG (s1,s2,s7,s15,0,b0,b0_1,b0_2,b0_3,b1,b1_1,b2,b3,b4,b5,b5_1,d26,b7++d25.2.2.2.2,b8,d25.1.1,d25.1.2.1,d25.1.2.2.1,d25.1.2.2.2.1,d25.1.2.2.2.2.1,d25.1.2.2.2.2.2,d25.2.1.1,d25.2.1.2.1,d25.2.1.2.2.1,d25.2.1.2.2.2.1,d25.2.1.2.2.2.2.1,d25.2.1.2.2.2.2.2,d25.2.2)) none fun d27=>some (.inl (d27.1,d27.2.1,d27.2.2.1,IntKind.i64.wrap (d27.2.2.2.1+1),d27.2.2.2.2.1,d27.2.2.2.2.2.1,d27.2.2.2.2.2.2.1,d27.2.2.2.2.2.2.2.1,d27.2.2.2.2.2.2.2.2.1,d27.2.2.2.2.2.2.2.2.2.1,d27.2.2.2.2.2.2.2.2.2.2.1,d27.2.2.2.2.2.2.2.2.2.2.2.1,d27.2.2.2.2.2.2.2.2.2.2.2.2.1,d27.2.2.2.2.2.2.2.2.2.2.2.2.2.1,d27.2.2.2.2.2.2.2.2.2.2.2.2.2.2.1,d27.2.2.2.2.2.2.2.2.2.2.2.2.2.2.2.1,d27.2.2.2.2.2.2.2.2.2.2.2.2.2.2.2.2.1,d27.2.2.2.2.2.2.2.2.2.2.2.2.2.2.2.2.2)) else none else none else some (.inr (b1,b1_1,b2,b3,b4,b5,b5_1,b6,b7,b8))
def ZbT:ZcO→Option (ZcO⊕Zem):=fun (a,b,c,d,e,f,g,h,i,j,k,l,m,n,o,p,q,r)=>Zmc a b c d e f g h i j k l m n o p q r
def Zhn (x:ZcO):Option Zem:=Zh ZbT Zl x
def ZlB (a0:U) (a1:Int) (a2:List En):Option Re:=bif decide (0≤a1) then Za a0.2.2.2[a1.toNat]? none fun d8=>bif decide (0≤(List.length d8.2:Int)∧(List.length d8.2:Int)=(List.length d8.2:Int)∧(List.length d8.2:Int).toNat*(96+1)≤lim) then bif decide (0≤(List.length d8.2:Int)∧(List.length d8.2:Int)=(List.length d8.2:Int)∧(List.length d8.2:Int).toNat*(8+1)≤lim) then Za (Zjk (a0,())) none fun d9=>Za (Zg0 (a0,a1,())) none fun d10=>Za (List.replicate (List.length d8.2:Int).toNat ((false,[],[],[],0,0):E))[Int.toNat (0:Int)]? none fun d11=>Za (List.replicate (List.length d8.2:Int).toNat ((false,[],[],[],0,0):E))[Int.toNat (0:Int)]? none fun d12=>Za (Zhm (a1,a2,d8.2,a0.1,a0.2.1,a0.2.2.1,a0.2.2.2,0,false,d9,(List.replicate (List.length d8.2:Int).toNat ((false,[],[],[],0,0):E)).set (Int.toNat (0:Int)) d10,List.replicate (List.length d8.2:Int).toNat 0,0,false)) none fun d13=>Za (Zhn (d13.1,d13.2.1,d13.2.2.1,0,d13.2.2.2.1,d13.2.2.2.2.1,d13.2.2.2.2.2.1,d13.2.2.2.2.2.2.1,d13.2.2.2.2.2.2.2.1,d13.2.2.2.2.2.2.2.2.1,d13.2.2.2.2.2.2.2.2.2.1,d13.2.2.2.2.2.2.2.2.2.2.1,d13.2.2.2.2.2.2.2.2.2.2.2.1,d13.2.2.2.2.2.2.2.2.2.2.2.2.1,d13.2.2.2.2.2.2.2.2.2.2.2.2.2,[],[],[])) none fun d14=>some (d14.2.2.2.1,d14.2.2.2.2.2.2.2.1,d14.2.2.2.2.2.2.2.2.1,d14.2.2.2.2.2.2.2.2.2,d14.2.2.2.2.2.1,d14.2.2.2.2.2.2.1) else none else none else none
def HI (s1:Int) (s2:List En) (b0 b0_1:List Int) (b0_2:Int) (b0_3:List C) (b1:Int) (b1_1:Bool) (b5:Int) (b5_1:Bool) (s7:List A) (i:Nat) (s10:Bool) (b2:List Int) (b3:List E) (b4:List Int) (d:A):Option ((Bool×(List Int)×(List E)×(List Int))⊕Ka):=
 Za b3[i]? (none) fun d21=>
  Za b3[i]? (none) fun d22=>
  Za (Zce ((b0,b0_1,b0_2,b0_3),s1,(i:Int),d22,s2,())) (none) fun d23=>
  Za (Vt ((),(i:Int),d.2.2.2.2.2.2.2.1,d23.1,()) (((),(),b2,()),b3,b4,())) (none) fun d25=>
  Za (Vt ((),(i:Int),d.2.2.2.2.2.2.2.2,d23.2.1,()) (((),(),d25.2.1.2.2.1,()),d25.2.2.1,d25.2.2.2.1,())) (none) fun d27=>
  bif s10 then
  some (.inl (true,d27.2.1.2.2.1,d27.2.2.1,d27.2.2.2.1))
 else bif d25.1 then
  some (.inl (true,d27.2.1.2.2.1,d27.2.2.1,d27.2.2.2.1))
 else some (.inl (d27.1,d27.2.1.2.2.1,d27.2.2.1,d27.2.2.2.1))
def ZlO (s1:Int) (s2:List En) (b0 b0_1:List Int) (b0_2:Int) (b0_3:List C) (b1:Int) (b1_1:Bool) (b5:Int) (b5_1:Bool) (s7:List A) (s10:Bool) (b2:List Int) (b3:List E) (b4:List Int):Option Ka:=
 some (s1,s2,s7,s10,b0,b0_1,b0_2,b0_3,b1,b1_1,b2,b3,b4,b5,b5_1)
abbrev ZGs (s1:Int) (s2:List En) (b0 b0_1:List Int) (b0_2:Int) (b0_3:List C) (b1:Int) (b1_1:Bool) (b5:Int) (b5_1:Bool) (s7:List A) (i:Nat) (s:Bool×(List Int)×(List E)×(List Int)):VI:=(s1,s2,s7,s.1,(i:Int),b0,b0_1,b0_2,b0_3,b1,b1_1,s.2.1,s.2.2.1,s.2.2.2,b5,b5_1)
def Zl5 (s1:Int) (s2:List En) (b0 b0_1:List Int) (b0_2:Int) (b0_3:List C) (b1:Int) (b1_1:Bool) (b5:Int) (b5_1:Bool) (s7:List A) (s:Bool×(List Int)×(List E)×(List Int)):Option Ka:=Zp (fun i s d=>HI s1 s2 b0 b0_1 b0_2 b0_3 b1 b1_1 b5 b5_1 s7 i s.1 s.2.1 s.2.2.1 s.2.2.2 d) (fun s=>ZlO s1 s2 b0 b0_1 b0_2 b0_3 b1 b1_1 b5 b5_1 s7 s.1 s.2.1 s.2.2.1 s.2.2.2) 0 s7 s
theorem ZGf (s1:Int) (s2:List En) (b0 b0_1:List Int) (b0_2:Int) (b0_3:List C) (b1:Int) (b1_1:Bool) (b5:Int) (b5_1:Bool) (s7:List A) (s:Bool×(List Int)×(List E)×(List Int)) (hl:s7.length<9223372036854775807):ZcF (s1,s2,s7,s.1,0,b0,b0_1,b0_2,b0_3,b1,b1_1,s.2.1,s.2.2.1,s.2.2.2,b5,b5_1)=Zl5 s1 s2 b0 b0_1 b0_2 b0_3 b1 b1_1 b5 b5_1 s7 s:=by
 unfold ZcF Zl5
 refine Zs s7 (ZGs s1 s2 b0 b0_1 b0_2 b0_3 b1 b1_1 b5 b5_1 s7) _ _ ?_ ?_ s (by unfold Zl;omega)
 ·intro i s d hi hd
  have e1:decide ((i:Int)<(s7.length:Int))=true:=dT0 (by omega)
  have e2:decide (0≤(i:Int))=true:=dT0 (by omega)
  have e3:Int.toNat (i:Int)=i:=tN0 i
  have e4:=Zq hi (Nat.le_of_lt hl)
  show ZbM (s1) (s2) (s7) (s.1) ((i:Int)) (b0) (b0_1) (b0_2) (b0_3) (b1) (b1_1) (s.2.1) (s.2.2.1) (s.2.2.2) (b5) (b5_1)=upd _ (HI s1 s2 b0 b0_1 b0_2 b0_3 b1 b1_1 b5 b5_1 s7 i s.1 s.2.1 s.2.2.1 s.2.2.2 d)
  unfold ZbM HI
  simp only [e1,e2,e3,e4,hd,cond_true,cond_false,Zb,ZC,ZF,ZD,ZI,ZJ,ZE]
 ·intro s
  have e1:decide ((s7.length:Int)<(s7.length:Int))=false:=dF0 (by omega)
  show ZbM (s1) (s2) (s7) (s.1) ((s7.length:Int)) (b0) (b0_1) (b0_2) (b0_3) (b1) (b1_1) (s.2.1) (s.2.2.1) (s.2.2.2) (b5) (b5_1)=_
  unfold ZbM ZlO
  rw [e1]
  rfl
def Zf1 (s1:Int) (s2:List En) (s7:List A) (s15:Int) (b0 b0_1:List Int) (b0_2:Int) (b0_3:List C) (b1:Int) (b1_1:Bool) (b2:List Int) (b3:List E) (b4:List Int) (b5:Int) (b5_1:Bool) (b6:List En) (b7:List Ac) (b9:Bool) (b9_1 b9_2 b9_3:List I) (b9_4 b9_5:Int) (b9_6:Bool) (b9_7 b9_8 b9_9:List I) (b9_10 b9_11:Int) (b9_13:List En) (b9_14:List Ac) (b9_12:List Int) (i:Nat) (b8:List Al) (d:Int):Option ((List Al)⊕Kb):=
 bif decide ((b8.length+[(1,s1,s15,d,0,0)].length+1)*48≤lim) then
  some (.inl (b8++[(1,s1,s15,d,0,0)]))
 else none
def ZlP (s1:Int) (s2:List En) (s7:List A) (s15:Int) (b0 b0_1:List Int) (b0_2:Int) (b0_3:List C) (b1:Int) (b1_1:Bool) (b2:List Int) (b3:List E) (b4:List Int) (b5:Int) (b5_1:Bool) (b6:List En) (b7:List Ac) (b9:Bool) (b9_1 b9_2 b9_3:List I) (b9_4 b9_5:Int) (b9_6:Bool) (b9_7 b9_8 b9_9:List I) (b9_10 b9_11:Int) (b9_13:List En) (b9_14:List Ac) (b9_12:List Int) (b8:List Al):Option Kb:=
 some (s1,s2,s7,s15,b0,b0_1,b0_2,b0_3,b1,b1_1,b2,b3,b4,b5,b5_1,b6,b7,b8)
abbrev ZGt (s1:Int) (s2:List En) (s7:List A) (s15:Int) (b0 b0_1:List Int) (b0_2:Int) (b0_3:List C) (b1:Int) (b1_1:Bool) (b2:List Int) (b3:List E) (b4:List Int) (b5:Int) (b5_1:Bool) (b6:List En) (b7:List Ac) (b9:Bool) (b9_1 b9_2 b9_3:List I) (b9_4 b9_5:Int) (b9_6:Bool) (b9_7 b9_8 b9_9:List I) (b9_10 b9_11:Int) (b9_13:List En) (b9_14:List Ac) (b9_12:List Int) (i:Nat) (s:List Al):VJ:=(s1,s2,s7,s15,(i:Int),b0,b0_1,b0_2,b0_3,b1,b1_1,b2,b3,b4,b5,b5_1,b6,b7,s,b9,b9_1,b9_2,b9_3,b9_4,b9_5,b9_6,b9_7,b9_8,b9_9,b9_10,b9_11,b9_12,b9_13,b9_14)
def Zl6 (s1:Int) (s2:List En) (s7:List A) (s15:Int) (b0 b0_1:List Int) (b0_2:Int) (b0_3:List C) (b1:Int) (b1_1:Bool) (b2:List Int) (b3:List E) (b4:List Int) (b5:Int) (b5_1:Bool) (b6:List En) (b7:List Ac) (b9:Bool) (b9_1 b9_2 b9_3:List I) (b9_4 b9_5:Int) (b9_6:Bool) (b9_7 b9_8 b9_9:List I) (b9_10 b9_11:Int) (b9_13:List En) (b9_14:List Ac) (b9_12:List Int) (s:List Al):Option Kb:=Zp (fun i s d=>Zf1 s1 s2 s7 s15 b0 b0_1 b0_2 b0_3 b1 b1_1 b2 b3 b4 b5 b5_1 b6 b7 b9 b9_1 b9_2 b9_3 b9_4 b9_5 b9_6 b9_7 b9_8 b9_9 b9_10 b9_11 b9_13 b9_14 b9_12 i s d) (fun s=>ZlP s1 s2 s7 s15 b0 b0_1 b0_2 b0_3 b1 b1_1 b2 b3 b4 b5 b5_1 b6 b7 b9 b9_1 b9_2 b9_3 b9_4 b9_5 b9_6 b9_7 b9_8 b9_9 b9_10 b9_11 b9_13 b9_14 b9_12 s) 0 b9_12 s
theorem ZGg (s1:Int) (s2:List En) (s7:List A) (s15:Int) (b0 b0_1:List Int) (b0_2:Int) (b0_3:List C) (b1:Int) (b1_1:Bool) (b2:List Int) (b3:List E) (b4:List Int) (b5:Int) (b5_1:Bool) (b6:List En) (b7:List Ac) (b9:Bool) (b9_1 b9_2 b9_3:List I) (b9_4 b9_5:Int) (b9_6:Bool) (b9_7 b9_8 b9_9:List I) (b9_10 b9_11:Int) (b9_13:List En) (b9_14:List Ac) (b9_12:List Int) (s:List Al) (hl:b9_12.length<9223372036854775807):ZcG (s1,s2,s7,s15,0,b0,b0_1,b0_2,b0_3,b1,b1_1,b2,b3,b4,b5,b5_1,b6,b7,s,b9,b9_1,b9_2,b9_3,b9_4,b9_5,b9_6,b9_7,b9_8,b9_9,b9_10,b9_11,b9_12,b9_13,b9_14)=Zl6 s1 s2 s7 s15 b0 b0_1 b0_2 b0_3 b1 b1_1 b2 b3 b4 b5 b5_1 b6 b7 b9 b9_1 b9_2 b9_3 b9_4 b9_5 b9_6 b9_7 b9_8 b9_9 b9_10 b9_11 b9_13 b9_14 b9_12 s:=by
 unfold ZcG Zl6
 refine Zs b9_12 (ZGt s1 s2 s7 s15 b0 b0_1 b0_2 b0_3 b1 b1_1 b2 b3 b4 b5 b5_1 b6 b7 b9 b9_1 b9_2 b9_3 b9_4 b9_5 b9_6 b9_7 b9_8 b9_9 b9_10 b9_11 b9_13 b9_14 b9_12) _ _ ?_ ?_ s (by unfold Zl;omega)
 ·intro i s d hi hd
  have e1:decide ((i:Int)<(b9_12.length:Int))=true:=dT0 (by omega)
  have e2:decide (0≤(i:Int))=true:=dT0 (by omega)
  have e3:Int.toNat (i:Int)=i:=tN0 i
  have e4:=Zq hi (Nat.le_of_lt hl)
  show ZbN (s1) (s2) (s7) (s15) ((i:Int)) (b0) (b0_1) (b0_2) (b0_3) (b1) (b1_1) (b2) (b3) (b4) (b5) (b5_1) (b6) (b7) (s) (b9) (b9_1) (b9_2) (b9_3) (b9_4) (b9_5) (b9_6) (b9_7) (b9_8) (b9_9) (b9_10) (b9_11) (b9_12) (b9_13) (b9_14)=upd _ (Zf1 s1 s2 s7 s15 b0 b0_1 b0_2 b0_3 b1 b1_1 b2 b3 b4 b5 b5_1 b6 b7 b9 b9_1 b9_2 b9_3 b9_4 b9_5 b9_6 b9_7 b9_8 b9_9 b9_10 b9_11 b9_13 b9_14 b9_12 i s d)
  unfold ZbN Zf1
  simp only [e1,e2,e3,e4,hd,cond_true,cond_false,Zb,ZC,ZF,ZD,ZI,ZJ,ZE]
 ·intro s
  have e1:decide ((b9_12.length:Int)<(b9_12.length:Int))=false:=dF0 (by omega)
  show ZbN (s1) (s2) (s7) (s15) ((b9_12.length:Int)) (b0) (b0_1) (b0_2) (b0_3) (b1) (b1_1) (b2) (b3) (b4) (b5) (b5_1) (b6) (b7) (s) (b9) (b9_1) (b9_2) (b9_3) (b9_4) (b9_5) (b9_6) (b9_7) (b9_8) (b9_9) (b9_10) (b9_11) (b9_12) (b9_13) (b9_14)=_
  unfold ZbN ZlP
  rw [e1]
  rfl
section
open Go.Proofs
def outV (u:U) (t n:Int) (e:E) (l:List En):O:=(Za2 u t n e l).getD (offE,offE,[],[],[])
abbrev St3:=Bool×List E×List Int
def nodeV (u:U) (t:Int) (l:List En) (st:List Int) (i:Nat) (s:St3) (d:A):St3:=
 let o:=outV u t i ((s.2.1[i]?).getD offE) l
 let r:=comeV st i d.2.2.2.2.2.2.2.1 o.1 s.2.1 s.2.2
 let q:=comeV st i d.2.2.2.2.2.2.2.2 o.2.1 r.2.1 r.2.2
 (s.1||r.1||q.1,q.2.1,q.2.2)
structure Inv (u:U) (t:Int) (k:Nat) (es:List E) (ns:List Int):Prop where
 ok:∀ x∈es,okE u t x
 le:es.length=k
 ln:ns.length=k
section
variable {u:U} {t:Int} {l:List En} {st:List Int} {c:C}
theorem Znh (hu:unitOK u) (ht:0≤t) (hl:tabOK l) (hn:l.length≤1000) (hc:u.2.2.2[t.toNat]? = some c) {e:E} (he:okE u t e) {i:Nat} (hi:i<c.2.length) :
  Za2 u t i e l=some (outV u t i e l)∧ZnD u t i e l=some (outV u t i e l)∧outOK u t i e (outV u t i e l)∧VN (outV u t i e l):=by
 obtain ⟨o,h1,h2,h3,h4⟩:=Z2w hu ht hl hn he.env (n:=(i:Int)) (by omega) hc (by omega)
 have:outV u t i e l=o:=by unfold outV;rw [h1];rfl
 rw [this]
 exact ⟨h1,h2,h3,h4⟩
theorem ZCr (hu:unitOK u) (ht:0≤t) (hl:tabOK l) (hn:l.length≤1000) (hst:st.length<9223372036854775807) (hc:u.2.2.2[t.toNat]? = some c) {x0 x4:Int} {x1 x5:Bool} {b:Bool} {es:List E} {ns:List Int} (v:Inv u t c.2.length es ns) {i:Nat} {d:A} (hd:c.2[i]? = some d) :
  ZaY x0 x1 x4 x5 c.2 i b u.1 u.2.1 u.2.2.1 u.2.2.2 t l c.2 st es ns d =
   some (.inl ((nodeV u t l st i (b,es,ns) d).1,u.1,u.2.1,u.2.2.1,u.2.2.2,t,l,c.2,st,(nodeV u t l st i (b,es,ns) d).2.1,(nodeV u t l st i (b,es,ns) d).2.2)) ∧
  HI t l u.1 u.2.1 u.2.2.1 u.2.2.2 x0 x1 x4 x5 c.2 i b st es ns d=some (.inl ((nodeV u t l st i (b,es,ns) d).1,st,(nodeV u t l st i (b,es,ns) d).2.1,(nodeV u t l st i (b,es,ns) d).2.2)) ∧
  Inv u t c.2.length (nodeV u t l st i (b,es,ns) d).2.1 (nodeV u t l st i (b,es,ns) d).2.2:=by
 have hi:=(List.getElem?_eq_some_iff.1 hd).1
 have ha:=(hu.ts c (mG0 hc)).a d (mG0 hd)
 have hie:i<es.length:=by rw [v.le];exact hi
 have ge:es[i]? = some es[i]:=List.getElem?_eq_getElem hie
 have he:=v.ok _ (List.getElem_mem hie)
 obtain ⟨o1,o2,o3,_⟩:=Znh hu ht hl hn hc he hi
 have hx:=ha.nx
 have hy:=ha.el
 have c1:=ZIW (st:=st) (fr:=(i:Int)) (to:=d.2.2.2.2.2.2.2.1) (e:=(outV u t i es[i] l).1) (ns:=ns) v.ok o3.nx
 have c2:=ZIW (st:=st) (fr:=(i:Int)) (to:=d.2.2.2.2.2.2.2.2) (e:=(outV u t i es[i] l).2.1) (ns:=(comeV st i d.2.2.2.2.2.2.2.1 (outV u t i es[i] l).1 es ns).2.2) c1.1 o3.el
 have f1:=fun b0 b1 b2 b3 b4 b5 b6=>ZXl (b0:=b0) (b1:=b1) (b2:=b2) (b3:=b3) (b4:=b4) (b5:=b5) (b6:=b6) hu hst (fr:=(i:Int)) (to:=d.2.2.2.2.2.2.2.1) (ns:=ns) v.ok o3.nx hx.1 (by have:=v.le;omega) (by rw [v.ln,v.le])
 have f2:=fun b0 b1 b2 b3 b4 b5 b6=>ZXl (b0:=b0) (b1:=b1) (b2:=b2) (b3:=b3) (b4:=b4) (b5:=b5) (b6:=b6) hu hst (fr:=(i:Int)) (to:=d.2.2.2.2.2.2.2.2) (ns:=(comeV st i d.2.2.2.2.2.2.2.1 (outV u t i es[i] l).1 es ns).2.2) c1.1 o3.el hy.1 (by rw [c1.2.1];have:=v.le;omega) (by rw [c1.2.2,c1.2.1,v.ln,v.le])
 have r1:=ZZ3 hu hst (fr:=(i:Int)) (to:=d.2.2.2.2.2.2.2.1) (ns:=ns) v.ok o3.nx hx.1 (by have:=v.le;omega) (by rw [v.ln,v.le])
 have r2:=ZZ3 hu hst (fr:=(i:Int)) (to:=d.2.2.2.2.2.2.2.2) (ns:=(comeV st i d.2.2.2.2.2.2.2.1 (outV u t i es[i] l).1 es ns).2.2) c1.1 o3.el hy.1 (by rw [c1.2.1];have:=v.le;omega) (by rw [c1.2.2,c1.2.1,v.ln,v.le])
 have hN:nodeV u t l st i (b,es,ns) d=(b||(comeV st i d.2.2.2.2.2.2.2.1 (outV u t i es[i] l).1 es ns).1||(comeV st i d.2.2.2.2.2.2.2.2 (outV u t i es[i] l).2.1 (comeV st i d.2.2.2.2.2.2.2.1 (outV u t i es[i] l).1 es ns).2.1 (comeV st i d.2.2.2.2.2.2.2.1 (outV u t i es[i] l).1 es ns).2.2).1,
   (comeV st i d.2.2.2.2.2.2.2.2 (outV u t i es[i] l).2.1 (comeV st i d.2.2.2.2.2.2.2.1 (outV u t i es[i] l).1 es ns).2.1 (comeV st i d.2.2.2.2.2.2.2.1 (outV u t i es[i] l).1 es ns).2.2).2):=by
  unfold nodeV
  simp only [ge,Option.getD_some]
 rw [hN]
 refine ⟨?_,?_,⟨c2.1,c2.2.1.trans (c1.2.1.trans v.le),c2.2.2.trans (c1.2.2.trans v.ln)⟩⟩
 ·unfold ZaY
  simp only [ge,Zb,Ze6,o1,ZaU,f1,f2]
  cases b<;>cases (comeV st i d.2.2.2.2.2.2.2.1 (outV u t i es[i] l).1 es ns).1<;>rfl
 ·unfold HI
  simp only [ge,hd,Zb,Zce,o2,Vt,r1,r2]
  cases b<;>cases (comeV st i d.2.2.2.2.2.2.2.1 (outV u t i es[i] l).1 es ns).1<;>rfl
end
end
section
open Go.Proofs
theorem ZOa {σ τ α Y:Type} {f:Nat→σ→α→Option (σ⊕Y)} {fin:σ→Option Y} (mkS:τ→σ) {g:Nat→τ→α→τ} {ok:τ→Prop} {L:List α} (h:∀ j s d,L[j]? = some d→ok s→f j (mkS s) d=some (.inl (mkS (g j s d)))∧ok (g j s d)) :
  ∀ (r:List α) (i:Nat) (s:τ),L.drop i=r→ok s→Zp f fin i r (mkS s)=fin (mkS (ZK g i r s))∧ok (ZK g i r s)
 | [],i,s,_,hs=>⟨rfl,hs⟩
 | d::r,i,s,hd,hs=>by
  have e:L[i]? = some d:=by
   have:=congrArg (fun q=>q[0]?) hd
   simpa using this
  obtain ⟨h1,h2⟩:=h i s d e hs
  rw [Qq h1]
  exact ZOa mkS h r (i+1) (g i s d) (by rw [← List.drop_drop,hd];rfl) h2
def Z5 (u:U) (t:Int) (l:List En) (st:List Int) (c:C) (es:List E) (ns:List Int):St3:=ZK (fun i s d=>nodeV u t l st i s d) 0 c.2 (false,es,ns)
def runV (u:U) (t:Int) (l:List En) (st:List Int) (c:C):Nat→List E→List Int→Int→Bool→List E×List Int×Int×Bool
 | 0,es,ns,r,d=>(es,ns,r,d)
 | n+1,es,ns,r,d=>bif d then (es,ns,r,d) else runV u t l st c n (Z5 u t l st c es ns).2.1 (Z5 u t l st c es ns).2.2 (r+1) (!(Z5 u t l st c es ns).1)
section
variable {u:U} {t:Int} {l:List En} {st:List Int} {c:C}
theorem ZTr (hu:unitOK u) (ht:0≤t) (hl:tabOK l) (hn:l.length≤1000) (hst:st.length<9223372036854775807) (hc:u.2.2.2[t.toNat]? = some c) {x0 x4:Int} {x1 x5:Bool} {es:List E} {ns:List Int} (v:Inv u t c.2.length es ns) :
  Zfr (false,c.2,(c.2.length:Int),0,x0,x1,u.1,u.2.1,u.2.2.1,u.2.2.2,t,l,c.2,st,es,ns,x4,x5) =
   some ((Z5 u t l st c es ns).1,x0,x1,u.1,u.2.1,u.2.2.1,u.2.2.2,t,l,c.2,st,(Z5 u t l st c es ns).2.1,(Z5 u t l st c es ns).2.2,x4,x5) ∧
  ZcF (t,l,c.2,false,0,u.1,u.2.1,u.2.2.1,u.2.2.2,x0,x1,st,es,ns,x4,x5) =
   some (t,l,c.2,(Z5 u t l st c es ns).1,u.1,u.2.1,u.2.2.1,u.2.2.2,x0,x1,st,(Z5 u t l st c es ns).2.1,(Z5 u t l st c es ns).2.2,x4,x5) ∧
  Inv u t c.2.length (Z5 u t l st c es ns).2.1 (Z5 u t l st c es ns).2.2:=by
 have cl:=(hu.ts c (mG0 hc)).n
 have h1:=ZOa (f:=fun i s d=>ZaY x0 x1 x4 x5 c.2 i s.1 s.2.1 s.2.2.1 s.2.2.2.1 s.2.2.2.2.1 s.2.2.2.2.2.1 s.2.2.2.2.2.2.1 s.2.2.2.2.2.2.2.1 s.2.2.2.2.2.2.2.2.1 s.2.2.2.2.2.2.2.2.2.1 s.2.2.2.2.2.2.2.2.2.2 d)
  (fin:=fun s=>Zn2 x0 x1 x4 x5 c.2 s.1 s.2.1 s.2.2.1 s.2.2.2.1 s.2.2.2.2.1 s.2.2.2.2.2.1 s.2.2.2.2.2.2.1 s.2.2.2.2.2.2.2.1 s.2.2.2.2.2.2.2.2.1 s.2.2.2.2.2.2.2.2.2.1 s.2.2.2.2.2.2.2.2.2.2)
  (mkS:=fun s:St3=>(s.1,u.1,u.2.1,u.2.2.1,u.2.2.2,t,l,c.2,st,s.2.1,s.2.2)) (g:=fun i s d=>nodeV u t l st i s d) (ok:=fun s=>Inv u t c.2.length s.2.1 s.2.2) (L:=c.2)
  (fun j s d hd hs=>⟨(ZCr hu ht hl hn hst hc (b:=s.1) hs hd).1,(ZCr hu ht hl hn hst hc (x0:=x0) (x1:=x1) (x4:=x4) (x5:=x5) (b:=s.1) hs hd).2.2⟩) c.2 0 (false,es,ns) rfl v
 have h2:=ZOa (f:=fun i s d=>HI t l u.1 u.2.1 u.2.2.1 u.2.2.2 x0 x1 x4 x5 c.2 i s.1 s.2.1 s.2.2.1 s.2.2.2 d)
  (fin:=fun s=>ZlO t l u.1 u.2.1 u.2.2.1 u.2.2.2 x0 x1 x4 x5 c.2 s.1 s.2.1 s.2.2.1 s.2.2.2)
  (mkS:=fun s:St3=>(s.1,st,s.2.1,s.2.2)) (g:=fun i s d=>nodeV u t l st i s d) (ok:=fun s=>Inv u t c.2.length s.2.1 s.2.2) (L:=c.2)
  (fun j s d hd hs=>⟨(ZCr hu ht hl hn hst hc (b:=s.1) hs hd).2.1,(ZCr hu ht hl hn hst hc (x0:=x0) (x1:=x1) (x4:=x4) (x5:=x5) (b:=s.1) hs hd).2.2⟩) c.2 0 (false,es,ns) rfl v
 refine ⟨?_,?_,h1.2⟩
 ·have:=ZJL x0 x1 x4 x5 c.2 (false,u.1,u.2.1,u.2.2.1,u.2.2.2,t,l,c.2,st,es,ns) (by omega)
  refine this.trans ?_
  unfold Zok
  exact h1.1
 ·have:=ZGf t l u.1 u.2.1 u.2.2.1 u.2.2.2 x0 x1 x4 x5 c.2 (false,st,es,ns) (by omega)
  refine this.trans ?_
  unfold Zl5
  exact h2.1
theorem Z5A {r:Int} (h0:0≤r) (h1:r≤1000):IntKind.i64.wrap (r+1)=r+1:=ZdN (by omega) (by omega)
theorem ZXB (hu:unitOK u) (ht:0≤t) (hl:tabOK l) (hn:l.length≤1000) (hst:st.length<9223372036854775807) (hc:u.2.2.2[t.toNat]? = some c) {x0:Int} {x1:Bool}:∀ (n:Nat) (es:List E) (ns:List Int) (r:Int) (d:Bool) (k:Nat),0≤r→r+n=100→Inv u t c.2.length es ns→
  Zh Za0 (k+n+1) (t,c.2,x0,x1,u.1,u.2.1,u.2.2.1,u.2.2.2,t,l,c.2,st,es,ns,r,d) =
   some (t,c.2,x0,x1,u.1,u.2.1,u.2.2.1,u.2.2.2,t,l,c.2,st,runV u t l st c n es ns r d) ∧
  Zh HM (k+n+1) (t,l,c.2,u.1,u.2.1,u.2.2.1,u.2.2.2,x0,x1,st,es,ns,r,d) =
   some (t,l,c.2,u.1,u.2.1,u.2.2.1,u.2.2.2,x0,x1,st,runV u t l st c n es ns r d)∧Inv u t c.2.length (runV u t l st c n es ns r d).1 (runV u t l st c n es ns r d).2.1
 | 0,es,ns,r,d,k,h0,h1,v=>by
  have e:decide (r<100)=false:=dF0 (by omega)
  refine ⟨?_,?_,v⟩
  ·simp only [Zh,Za0,Zjc,e]
   cases d<;>rfl
  ·simp only [Zh,HM,Zgx,e]
   cases d<;>rfl
 | n+1,es,ns,r,true,k,h0,h1,v=>by
  refine ⟨?_,?_,v⟩
  ·simp only [Zh,Za0,Zjc,Bool.not_true,cond_false];rfl
  ·simp only [Zh,HM,Zgx,Bool.not_true,cond_false];rfl
 | n+1,es,ns,r,false,k,h0,h1,v=>by
  have e:decide (r<100)=true:=dT0 (by omega)
  have w:=Z5A h0 (by omega)
  have q1:=ZTr hu ht hl hn hst hc (x0:=x0) (x1:=x1) (x4:=r+1) (x5:=false) v
  have q2:=ZTr hu ht hl hn hst hc (x0:=x0) (x1:=x1) (x4:=r) (x5:=false) v
  have ih:=ZXB hu ht hl hn hst hc (x0:=x0) (x1:=x1) n (Z5 u t l st c es ns).2.1 (Z5 u t l st c es ns).2.2 (r+1) (!(Z5 u t l st c es ns).1) k (by omega) (by omega) q1.2.2
  refine ⟨?_,?_,ih.2.2⟩
  ·rw [show k+(n+1)+1=(k+n+1)+1 by omega,Zh]
   simp only [Za0,Zjc,e,w,Bool.not_false,cond_true,q1.1,Zb]
   exact ih.1
  ·rw [show k+(n+1)+1=(k+n+1)+1 by omega,Zh]
   simp only [HM,Zgx,e,Bool.not_false,cond_true,q2.2.1,Zb,w]
   exact ih.2.1
end
end
section
open Go.Proofs
abbrev Ga:=List En×List Ac×List Al
def gatN (t:Int) (i:Nat) (s:Ga) (o:O):Ga:=(addT Zg s.1 o.2.2.2.1,s.2.1++o.2.2.2.2,s.2.2++o.2.2.1.map (fun e=>((1,t,(i:Int),e,0,0):Al)))
def gatV (u:U) (t:Int) (l:List En) (es:List E) (i:Nat) (r:List A) (s:Ga):Ga:=ZK (fun i s _=>gatN t i s (outV u t i ((es[i]?).getD offE) l)) i r s
structure GInv (i:Nat) (s:Ga):Prop where
 k:tabOK s.1
 a:s.1.length≤i
 b:s.2.1.length≤i
 c:s.2.2.length≤2*i
theorem ZCh {α β Y:Type} {f:Nat→List β→α→Option (List β⊕Y)} {fin:List β→Option Y} {F:α→β} (h:∀ j s d,s.length≤1000→f j s d=some (.inl (s++[F d]))) :
  ∀ (l:List α) (j:Nat) (s:List β),s.length+l.length≤1000→Zp f fin j l s=fin (s++l.map F)
 | [],j,s,_=>by simp [Zp]
 | d::r,j,s,hs=>by
  rw [List.length_cons] at hs
  rw [Qq (h j s d (by omega)),ZCh h r (j+1) (s++[F d]) (by rw [List.length_append];simp;omega),List.map_cons,List.append_assoc]
  rfl
section
variable {u:U} {t:Int} {l:List En} {st:List Int} {c:C}
theorem ZZP {i:Nat} {s:Ga} {e:E} {o:O} (v:GInv i s) (h:outOK u t i e o):GInv (i+1) (gatN t i s o):=by
 have ha:∀ x∈o.2.2.2.1,okA x:=fun x hx=>(h.st.2 x hx).1.a
 have h1:=Zlz Zg o.2.2.2.1 s.1
 have:=v.a
 have:=v.b
 have:=v.c
 have:=h.st.1
 have:=h.ac.1
 have:=h.al.1
 refine ⟨Zfk Zcb v.k ha,?_,?_,?_⟩
 ·show (addT Zg s.1 o.2.2.2.1).length≤i+1
  omega
 ·simp only [gatN,List.length_append];omega
 ·simp only [gatN,List.length_append,List.length_map];omega
theorem ZXz (hu:unitOK u) (ht:0≤t) (hl:tabOK l) (hn:l.length≤1000) (hc:u.2.2.2[t.toNat]? = some c) {x0 x4:Int} {x1 x5:Bool} {es:List E} {ns:List Int} (v:Inv u t c.2.length es ns) :
  ∀ (r:List A) (i:Nat) (s:Ga) (k:Nat),c.2.drop i=r→i+r.length=c.2.length→GInv i s→
  Zh ZbT (k+r.length+1) (t,l,c.2,(i:Int),u.1,u.2.1,u.2.2.1,u.2.2.2,x0,x1,st,es,ns,x4,x5,s.1,s.2.1,s.2.2) =
   some (x0,x1,st,es,ns,x4,x5,gatV u t l es i r s)∧GInv c.2.length (gatV u t l es i r s)
 | [],i,s,k,hd,hi,g=>by
  have hi:i=c.2.length:=by simpa using hi
  have e:decide ((i:Int)<(c.2.length:Int))=false:=dF0 (by omega)
  refine ⟨?_,by subst hi;exact g⟩
  simp only [Zh,ZbT,Zmc,e,cond_false]
  rfl
 | d::r,i,s,k,hd,hi,g=>by
  rw [List.length_cons] at hi ⊢
  have cl:=(hu.ts c (mG0 hc)).n
  have hlt:i<c.2.length:=by omega
  have e:decide ((i:Int)<(c.2.length:Int))=true:=dT0 (by omega)
  have e0:decide (0≤(i:Int))=true:=dT0 (by omega)
  have hie:i<es.length:=by rw [v.le];exact hlt
  have ge:es[i]? = some es[i]:=List.getElem?_eq_getElem hie
  obtain ⟨o1,o2,o3,_⟩:=Znh hu ht hl hn hc (v.ok _ (List.getElem_mem hie)) hlt
  have hV:gatV u t l es i (d::r) s=gatV u t l es (i+1) r (gatN t i s (outV u t i es[i] l)):=by
   show ZK _ _ _ _=_
   rw [ZK]
   simp only [ge,Option.getD_some]
   rfl
  have g2:=ZZP g o3
  have ih:=ZXz hu ht hl hn hc (x0:=x0) (x4:=x4) (x1:=x1) (x5:=x5) v r (i+1) _ k (by rw [← List.drop_drop,hd];rfl) (by omega) g2
  rw [hV]
  refine ⟨?_,ih.2⟩
  rw [show k+(r.length+1)+1=(k+r.length+1)+1 by omega,Zh]
  generalize outV u t i es[i] l=o at o2 o3 g2 ih
  have ga:=g.a
  have gb:=g.b
  have gc:=g.c
  have a1:=o3.st.1
  have a2:=o3.ac.1
  have a3:=o3.al.1
  have add:Zcp s.1 o.2.2.2.1=some (addT Zg s.1 o.2.2.2.1):=by
   rw [Zne _ _ (by omega),Zwy g.k.e fun x hx=>(o3.st.2 x hx).1.a]
  have lm:decide ((s.2.1.length+o.2.2.2.2.length+1)*48≤lim)=true:=dT0 (by unfold lim;omega)
  have al:=ZGg t l c.2 i u.1 u.2.1 u.2.2.1 u.2.2.2 x0 x1 st es ns x4 x5 (addT Zg s.1 o.2.2.2.1) (s.2.1++o.2.2.2.2) o.1.1 o.1.2.1 o.1.2.2.1 o.1.2.2.2.1 o.1.2.2.2.2.1 o.1.2.2.2.2.2 o.2.1.1 o.2.1.2.1 o.2.1.2.2.1 o.2.1.2.2.2.1 o.2.1.2.2.2.2.1 o.2.1.2.2.2.2.2 o.2.2.2.1 o.2.2.2.2 o.2.2.1 s.2.2 (by omega)
  unfold Zl6 at al
  rw [ZCh (F:=fun e=>((1,t,(i:Int),e,0,0):Al)) (fun j s d hs=>?_) o.2.2.1 0 s.2.2 (by omega)] at al
  ·have w:=Zq (i:=i) (n:=c.2.length) hlt (by omega)
   have al':ZcG (t,l,c.2,(i:Int),0,u.1,u.2.1,u.2.2.1,u.2.2.2,x0,x1,st,es,ns,x4,x5,addT Zg s.1 o.2.2.2.1,s.2.1++o.2.2.2.2,s.2.2,o.1.1,o.1.2.1,o.1.2.2.1,o.1.2.2.2.1,o.1.2.2.2.2.1,o.1.2.2.2.2.2,o.2.1.1,o.2.1.2.1,o.2.1.2.2.1,o.2.1.2.2.2.1,o.2.1.2.2.2.2.1,o.2.1.2.2.2.2.2,o.2.2)=_:=al
   simp only [ZbT,Zmc,e,e0,cond_true,tN0,ge,Zb,Zce,o2,Kx,add,lm,al',ZlP,w]
   exact ih.1
  ·unfold Zf1
   have q:(s.length+1+1)*48≤lim:=by unfold lim;omega
   simp only [List.length_cons,List.length_nil,Nat.zero_add,dT0 q,cond_true]
end
end
section
open Go.Proofs
section
variable {u:U} {t:Int} {l:List En} {st:List Int} {c:C}
theorem Z2O {x0 x4:Int} {x1 x5:Bool} {es:List E} {ns:List Int} {i:Nat} {s:Ga} {e:E} {o:O} (hi:i≤60) (g:GInv i s) (o3:outOK u t i e o) :
  Zkr (t,(i:Int),(([o].length:Nat):Int),0,[o],o.1.1,o.1.2.1,o.1.2.2.1,o.1.2.2.2.1,o.1.2.2.2.2.1,o.1.2.2.2.2.2,o.2.1.1,o.2.1.2.1,o.2.1.2.2.1,o.2.1.2.2.2.1,o.2.1.2.2.2.2.1,o.2.1.2.2.2.2.2,o.2.2.1,o.2.2.2.1,o.2.2.2.2,x0,x1,u.1,u.2.1,u.2.2.1,u.2.2.2,t,l,c.2,st,es,ns,x4,x5,s.1,s.2.1,s.2.2) =
   some ([o],o.1.1,o.1.2.1,o.1.2.2.1,o.1.2.2.2.1,o.1.2.2.2.2.1,o.1.2.2.2.2.2,o.2.1.1,o.2.1.2.1,o.2.1.2.2.1,o.2.1.2.2.2.1,o.2.1.2.2.2.2.1,o.2.1.2.2.2.2.2,o.2.2.1,o.2.2.2.1,o.2.2.2.2,x0,x1,u.1,u.2.1,u.2.2.1,u.2.2.2,t,l,c.2,st,es,ns,x4,x5,gatN t i s o):=by
 have ga:=g.a
 have gb:=g.b
 have gc:=g.c
 have a1:=o3.st.1
 have a2:=o3.ac.1
 have a3:=o3.al.1
 have add:ZyQ s.1 o.2.2.2.1=some (addT Zg s.1 o.2.2.2.1):=ZIe _ _ g.k.srt (by omega)
 have lm:decide ((s.2.1.length+o.2.2.2.2.length+1)*48≤lim)=true:=dT0 (by unfold lim;omega)
 have al:=ZJM t i (([o].length:Nat):Int) 0 [o] o.1.1 o.1.2.1 o.1.2.2.1 o.1.2.2.2.1 o.1.2.2.2.2.1 o.1.2.2.2.2.2 o.2.1.1 o.2.1.2.1 o.2.1.2.2.1 o.2.1.2.2.2.1 o.2.1.2.2.2.2.1 o.2.1.2.2.2.2.2 o.2.2.1 o.2.2.2.1 o.2.2.2.2 x0 x1 u.1 u.2.1 u.2.2.1 u.2.2.2 t l c.2 st es ns x4 x5 (addT Zg s.1 o.2.2.2.1) (s.2.1++o.2.2.2.2) o.2.2.1 s.2.2 (by omega)
 unfold Zol at al
 rw [ZCh (F:=fun e=>((1,t,(i:Int),e,0,0):Al)) (fun j s d hs=>?_) o.2.2.1 0 s.2.2 (by omega)] at al
 ·unfold Zkr
  have f:Zl=18446744073709551614+1+1:=rfl
  rw [f,Zh]
  have e1:decide ((0:Int)<(([o].length:Nat):Int))=true:=rfl
  have e2:decide ((0:Int)≤0)=true:=rfl
  have e3:([o]:List O)[Int.toNat 0]? = some o:=rfl
  have e4:IntKind.i64.wrap (0+1)=1:=rfl
  simp only [Zor,ZvG,e1,e2,e3,e4,cond_true,Zb,Zhb,add,lm,al,Zn3]
  rfl
 ·unfold Zi2
  have q:(s.length+1+1)*48≤lim:=by unfold lim;omega
  simp only [List.length_cons,List.length_nil,Nat.zero_add,dT0 q,cond_true]
theorem ZWy (hu:unitOK u) (ht:0≤t) (hl:tabOK l) (hn:l.length≤1000) (hc:u.2.2.2[t.toNat]? = some c) {x0 x4:Int} {x1 x5:Bool} {es:List E} {ns:List Int} (v:Inv u t c.2.length es ns) :
  ∀ (r:List A) (i:Nat) (s:Ga) (k:Nat),c.2.drop i=r→i+r.length=c.2.length→GInv i s→
  Zh Zd6 (k+r.length+1) (t,(c.2.length:Int),(i:Int),x0,x1,u.1,u.2.1,u.2.2.1,u.2.2.2,t,l,c.2,st,es,ns,x4,x5,s.1,s.2.1,s.2.2) =
   some (x0,x1,u.1,u.2.1,u.2.2.1,u.2.2.2,t,l,c.2,st,es,ns,x4,x5,gatV u t l es i r s)
 | [],i,s,k,hd,hi,g=>by
  have hi:i=c.2.length:=by simpa using hi
  have e:decide ((i:Int)<(c.2.length:Int))=false:=dF0 (by omega)
  simp only [Zh,Zd6,Zoq,e,cond_false]
  rfl
 | d::r,i,s,k,hd,hi,g=>by
  rw [List.length_cons] at hi ⊢
  have cl:=(hu.ts c (mG0 hc)).n
  have hlt:i<c.2.length:=by omega
  have e:decide ((i:Int)<(c.2.length:Int))=true:=dT0 (by omega)
  have e0:decide (0≤(i:Int))=true:=dT0 (by omega)
  have hie:i<es.length:=by rw [v.le];exact hlt
  have ge:es[i]? = some es[i]:=List.getElem?_eq_getElem hie
  obtain ⟨o1,o2,o3,_⟩:=Znh hu ht hl hn hc (v.ok _ (List.getElem_mem hie)) hlt
  have hV:gatV u t l es i (d::r) s=gatV u t l es (i+1) r (gatN t i s (outV u t i es[i] l)):=by
   show ZK _ _ _ _=_
   rw [ZK]
   simp only [ge,Option.getD_some]
   rfl
  have g2:=ZZP g o3
  have ih:=ZWy hu ht hl hn hc (x0:=x0) (x4:=x4) (x1:=x1) (x5:=x5) v r (i+1) _ k (by rw [← List.drop_drop,hd];rfl) (by omega) g2
  rw [hV]
  rw [show k+(r.length+1)+1=(k+r.length+1)+1 by omega,Zh]
  have w:=Zq (i:=i) (n:=c.2.length) hlt (by omega)
  have one:=Z2O (l:=l) (st:=st) (c:=c) (x0:=x0) (x4:=x4) (x1:=x1) (x5:=x5) (es:=es) (ns:=ns) (by omega) g o3
  simp only [Zd6,Zoq,e,e0,cond_true,tN0,ge,Zb,Ze6,o1,one,w]
  exact ih
end
end
section
open Go.Proofs
def es0 (u:U) (c:C):List E:=(List.replicate c.2.length offE).set 0 (ZfA u c)
def ns0 (c:C):List Int:=List.replicate c.2.length 0
def endV (u:U) (t:Int) (l:List En) (st:List Int) (c:C):List E×List Int×Int×Bool:=runV u t l st c 100 (es0 u c) (ns0 c) 0 false
def gatE (u:U) (t:Int) (l:List En) (st:List Int) (c:C):Ga:=gatV u t l (endV u t l st c).1 0 c.2 ([],[],[])
def resV (u:U) (t:Int) (l:List En) (st:List Int) (c:C):Re:=((endV u t l st c).1,(gatE u t l st c).1,(gatE u t l st c).2.1,(gatE u t l st c).2.2,(endV u t l st c).2.2.1,(endV u t l st c).2.2.2)
section
variable {u:U} {t:Int} {l:List En} {st:List Int} {c:C}
theorem ZSN (hu:unitOK u) (hc:u.2.2.2[t.toNat]? = some c):Inv u t c.2.length (es0 u c) (ns0 c):=by
 refine ⟨fun x hx=>?_,by simp [es0],by simp [ns0]⟩
 rcases List.mem_or_eq_of_mem_set hx with k | rfl
 ·exact .inl (List.mem_replicate.1 k).2
 ·exact .inr ⟨rfl,ZLh u t hu hc⟩
theorem Z2x:GInv 0 (([],[],[]):Ga):=⟨⟨(fun x k=>nomatch k),(fun i a b h=>by simp at h)⟩,by simp,by simp,by simp⟩
theorem Z4O (hu:unitOK u) (ht:0≤t) (hl:tabOK l) (hn:l.length≤1000) (hst:st.length<9223372036854775807) (hc:u.2.2.2[t.toNat]? = some c) (s1:Zs9 u=some st) (s2:ZqA u=some st) :
  Zki u t l=some (resV u t l st c)∧ZlB u t l=some (resV u t l st c)∧Inv u t c.2.length (endV u t l st c).1 (endV u t l st c).2.1∧GInv c.2.length (gatE u t l st c):=by
 have cl:=(hu.ts c (mG0 hc)).n
 have v0:=ZSN hu hc
 have q:=ZXB hu ht hl hn hst hc (x0:=0) (x1:=false) 100 (es0 u c) (ns0 c) 0 false 18446744073709551515 (by decide) (by decide) v0
 have vE:Inv u t c.2.length (endV u t l st c).1 (endV u t l st c).2.1:=q.2.2
 have hF:Zl=18446744073709551515+100+1:=rfl
 have hG:Zl=(Zl - c.2.length - 1)+c.2.length+1:=by unfold Zl;omega
 have ga:=ZWy hu ht hl hn hc (st:=st) (x0:=0) (x1:=false) (x4:=(endV u t l st c).2.2.1) (x5:=(endV u t l st c).2.2.2) vE c.2 0 ([],[],[]) (Zl - c.2.length - 1) rfl (by omega) Z2x
 have gb:=ZXz hu ht hl hn hc (st:=st) (x0:=0) (x1:=false) (x4:=(endV u t l st c).2.2.1) (x5:=(endV u t l st c).2.2.2) vE c.2 0 ([],[],[]) (Zl - c.2.length - 1) rfl (by omega) Z2x
 rw [← hG] at ga gb
 have e0:decide (0≤t)=true:=dT0 ht
 have m1:decide (0≤(c.2.length:Int)∧True∧c.2.length*(96+1)≤lim)=true:=dT0 ⟨by omega,trivial,by unfold lim;omega⟩
 have m2:decide (0≤(c.2.length:Int)∧True∧c.2.length*(8+1)≤lim)=true:=dT0 ⟨by omega,trivial,by unfold lim;omega⟩
 have r0:(List.replicate c.2.length ((false,[],[],[],0,0):E))[Int.toNat 0]? = some offE:=by
  rw [List.getElem?_replicate,if_pos (show Int.toNat 0<c.2.length by simp;omega)];rfl
 have f1:=ZKu u t hu ht hc
 have f2:=ZEX u t hu ht hc
 have L1:Zkp (t,c.2,0,false,u.1,u.2.1,u.2.2.1,u.2.2.2,t,l,c.2,st,(List.replicate c.2.length ((false,[],[],[],0,0):E)).set (Int.toNat 0) (ZfA u c),List.replicate c.2.length 0,0,false)=some (t,c.2,0,false,u.1,u.2.1,u.2.2.1,u.2.2.2,t,l,c.2,st,endV u t l st c):=by
  unfold Zkp
  rw [hF]
  exact q.1
 have L2:Zkq (t,(c.2.length:Int),0,0,false,u.1,u.2.1,u.2.2.1,u.2.2.2,t,l,c.2,st,(endV u t l st c).1,(endV u t l st c).2.1,(endV u t l st c).2.2.1,(endV u t l st c).2.2.2,[],[],[]) =
   some (0,false,u.1,u.2.1,u.2.2.1,u.2.2.2,t,l,c.2,st,(endV u t l st c).1,(endV u t l st c).2.1,(endV u t l st c).2.2.1,(endV u t l st c).2.2.2,gatE u t l st c):=by
  unfold Zkq
  exact ga
 have L3:Zhm (t,l,c.2,u.1,u.2.1,u.2.2.1,u.2.2.2,0,false,st,(List.replicate c.2.length ((false,[],[],[],0,0):E)).set (Int.toNat 0) (ZfA u c),List.replicate c.2.length 0,0,false)=some (t,l,c.2,u.1,u.2.1,u.2.2.1,u.2.2.2,0,false,st,endV u t l st c):=by
  unfold Zhm
  rw [hF]
  exact q.2.1
 have L4:Zhn (t,l,c.2,0,u.1,u.2.1,u.2.2.1,u.2.2.2,0,false,st,(endV u t l st c).1,(endV u t l st c).2.1,(endV u t l st c).2.2.1,(endV u t l st c).2.2.2,[],[],[]) =
   some (0,false,st,(endV u t l st c).1,(endV u t l st c).2.1,(endV u t l st c).2.2.1,(endV u t l st c).2.2.2,gatE u t l st c):=by
  unfold Zhn
  exact gb.1
 refine ⟨?_,?_,vE,gb.2⟩
 ·unfold Zki
  simp only [e0,hc,m1,m2,cond_true,Zb,Zlv,s1,Zlw,f1,tN0,r0,L1,L2]
  rfl
 ·unfold ZlB
  simp only [e0,hc,m1,m2,cond_true,Zb,Zjk,s2,Zg0,f2,tN0,r0,L3,L4]
  rfl
end
end
theorem Z2B (u:U) (hu:unitOK u):(allN u).length≤3000:=by
 have h1:=hu.g
 have h2:=hu.a
 have h3:=hu.t
 have a:=Zpb (g:=numD) (k:=2) (fun d=>Nat.le_refl _) u.2.1
 have la:∀ a:A,(numA a).length≤3:=fun a=>by unfold numA;cases a.1==1<;>simp
 have b:∀ (r:List C),(∀ c∈r,c.2.length≤60)→(r.flatMap numC).length≤180*r.length:=by
  intro r
  induction r with
  | nil=>simp
  | cons c r ih=>
   intro h
   have h0:=h c (by simp)
   have:=ih fun c hc=>h c (by simp [hc])
   have:=Zpb la c.2
   rw [List.flatMap_cons,List.length_append,List.length_cons]
   unfold numC at *
   omega
 have b:=b u.2.2.2 fun c hc=>(hu.ts c hc).n.2
 unfold allN
 simp only [List.length_append]
 omega
theorem ZP2 (u:U) (hu:unitOK u):(Zt u).length≤4000:=by
 rw [ZEa]
 have:=ZLp (allN u) [-1,0,1]
 have:=Z2B u hu
 simp only [List.length_cons,List.length_nil] at *
 omega
theorem ZnL {u:U} {t:Int} {l:List En} {c:C} (hu:unitOK u) (ht:0≤t) (hl:tabOK l) (hn:l.length≤1000) (hc:u.2.2.2[t.toNat]? = some c) :
  Zki u t l=some (resV u t l (Zt u) c)∧ZlB u t l=some (resV u t l (Zt u) c)∧Inv u t c.2.length (endV u t l (Zt u) c).1 (endV u t l (Zt u) c).2.1∧GInv c.2.length (gatE u t l (Zt u) c):=
 Z4O hu ht hl hn (by have:=ZP2 u hu;omega) hc (ZKt u hu) (ZId u hu)
theorem Za5:tabOK []:=⟨(fun x k=>nomatch k),(fun i a b h=>by simp at h)⟩
def goodE (e:E):Prop:=ZBA e∧okB e.2.2.2.2.1∧okB e.2.2.2.2.2
structure moreO (x y:O):Prop where
 nx:leO x.1 y.1
 el:leO x.2.1 y.2.1
 al:∀ z∈x.2.2.1,z∈y.2.2.1
 st:x.2.2.2.1.length≤y.2.2.2.1.length
 ac:x.2.2.2.2.length≤y.2.2.2.2.length
 g1:goodE x.1
 g2:goodE x.2.1
 g3:goodE y.1
 g4:goodE y.2.1
 la:x.2.2.1.length≤100∧y.2.2.1.length≤100
 aln:x.2.2.1.length≤y.2.2.1.length
section
open Go.Proofs
structure AcInv (es:List E) (t i:Int) (L:List Ac):Prop where
 ent:∀ a∈L,a.1=t∧0≤a.2.1∧a.2.1<i∧∃ e,es[a.2.1.toNat]? = some e∧e.1=true∧a.2.2.2.2.2=e.2.2.2.2.1
 up:L.Pairwise fun a b=>a.2.1≤b.2.1
structure AlInv (es:List E) (t i:Int) (L:List Al):Prop where
 ent:∀ a∈L,a.1=1∧a.2.1=t∧0≤a.2.2.1∧a.2.2.1<i∧(∃ e,es[a.2.2.1.toNat]? = some e∧e.1=true)∧a.2.2.2.1≠0
 up:L.Pairwise fun a b=>a.2.2.1≤b.2.2.1
section
variable {u:U} {t:Int} {l:List En} {st:List Int} {c:C}
end
end
section
open Go.Proofs
structure mo (x y:O):Prop where
 nx:leO x.1 y.1
 el:leO x.2.1 y.2.1
 al:x.2.2.1.length≤y.2.2.1.length
 ac:x.2.2.2.2.length≤y.2.2.2.2.length
section
variable {u:U} {t:Int} {l l':List En} {st:List Int} {c:C}
end
end
section
open Go.Proofs
section
variable {u:U} {tab:List En}
structure TInv (u:U) (r:Int) (tab:List En):Prop where
 k:tabOK tab
 n:(tab.length:Int)≤45*r
end
end
section
section
variable [RT]
theorem Z68 {sh:List Sh} {G:KY sh→Option Bool} {args:List AV} {x:KY sh} (h1:rds sh args=some x) (h2:AV.idsL args=[]) (h3:G x=some true) :
  ∃ fb,ex ((conP true sh (.dat .bool) G args).bind (finP true)) false ⟨[],0⟩ ⟨[],[]⟩=some (.bool true,⟨[],0⟩,fb):=by
 refine ⟨⟨[],[]⟩,?_⟩
 unfold ex conP
 rw [Ztx true args _ h2,h1]
 simp only [Prog.bind,run,Option.bind_some]
 exact (congrArg (fun o=>Option.bind o _) h3).trans (ZPf _ rfl _ _ _)
end
end
theorem ZxH:reachBytes<9223372036854775807:=by decide
theorem Z7p {e:Ty} {l:List (D e)} (h:ZpZ reachBytes (.sl e) l):List.length (α:=D e) l<9223372036854775807:=Nat.lt_of_le_of_lt h.1 ZxH
theorem Z6Y {u:U} (h:ZpZ reachBytes tU u):sizeU u:=
 ⟨Nat.lt_of_le_of_lt h.1.1 ZxH,Nat.lt_of_le_of_lt h.2.1.1 ZxH,Nat.lt_of_le_of_lt h.2.2.2.1 ZxH,fun c hc=>Nat.lt_of_le_of_lt (h.2.2.2.2 c hc).2.1 ZxH⟩
end
end Go.Proofs.YtbdcblpjemmipaaGreat.Ex
