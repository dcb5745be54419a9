/- A part of the proofs of what is known of threads: II. -/
import Derived.Test.YtbdcblpjemmipaaGreatIF
import Derived.Test.YtbdcblpjemmipaaGreatIH
import Derived.Test.YtbdcblpjemmipaaGreatIG
import Derived.Test.YtbdcblpjemmipaaGreatID
namespace Go.Proofs.YtbdcblpjemmipaaGreat.Ex
open Go.Proofs
set_option maxRecDepth 100000
set_option maxHeartbeats 4000000
set_option linter.unusedVariables false
set_option linter.unusedSimpArgs false
set_option linter.unusedSectionVars false
noncomputable section
abbrev Zj5:Type:=(Bool×(List Int)×(List Int)×Int×(List C)×Int×(List En)×(List A)×(List Int)×(List E)×(List Int))
def Wt (b0:Int) (b0_1:Bool) (b4:Int) (b4_1:Bool) (s12:List A) (i:Nat) (s3:Bool) (b1 b1_1:List Int) (b1_2:Int) (b1_3:List C) (b1_4:Int) (b1_5:List En) (b1_6:List A) (b1_7:List Int) (b2:List E) (b3:List Int) (d:A):Option (Zj5⊕Ko):=
 Za b2[i]? (none) fun d25=>
  Za b2[i]? (none) fun d26=>
  Za (ZcK ((b1,b1_1,b1_2,b1_3),b1_4,(i:Int),d26,b1_5,())) (none) fun d27=>
  Za (Wp ((),(i:Int),d.2.2.2.2.2.2.2.1,d27.1,()) ((b1,b1_1,b1_2,b1_3,b1_4,b1_5,b1_6,(),(),b1_7,()),b2,b3,())) (none) fun d28=>
  Za (Wp ((),(i:Int),d.2.2.2.2.2.2.2.2,d27.2.1,()) ((d28.2.1.1,d28.2.1.2.1,d28.2.1.2.2.1,d28.2.1.2.2.2.1,d28.2.1.2.2.2.2.1,d28.2.1.2.2.2.2.2.1,d28.2.1.2.2.2.2.2.2.1,(),(),d28.2.1.2.2.2.2.2.2.2.2.2.1,()),d28.2.2.1,d28.2.2.2.1,())) (none) fun d29=>
  bif s3 then
  some (.inl (true,d29.2.1.1,d29.2.1.2.1,d29.2.1.2.2.1,d29.2.1.2.2.2.1,d29.2.1.2.2.2.2.1,d29.2.1.2.2.2.2.2.1,d29.2.1.2.2.2.2.2.2.1,d29.2.1.2.2.2.2.2.2.2.2.2.1,d29.2.2.1,d29.2.2.2.1))
 else bif d28.1 then
  some (.inl (true,d29.2.1.1,d29.2.1.2.1,d29.2.1.2.2.1,d29.2.1.2.2.2.1,d29.2.1.2.2.2.2.1,d29.2.1.2.2.2.2.2.1,d29.2.1.2.2.2.2.2.2.1,d29.2.1.2.2.2.2.2.2.2.2.2.1,d29.2.2.1,d29.2.2.2.1))
 else some (.inl (d29.1,d29.2.1.1,d29.2.1.2.1,d29.2.1.2.2.1,d29.2.1.2.2.2.1,d29.2.1.2.2.2.2.1,d29.2.1.2.2.2.2.2.1,d29.2.1.2.2.2.2.2.2.1,d29.2.1.2.2.2.2.2.2.2.2.2.1,d29.2.2.1,d29.2.2.2.1))
def Zkf (b0:Int) (b0_1:Bool) (b4:Int) (b4_1:Bool) (s12:List A) (s3:Bool) (b1 b1_1:List Int) (b1_2:Int) (b1_3:List C) (b1_4:Int) (b1_5:List En) (b1_6:List A) (b1_7:List Int) (b2:List E) (b3:List Int):Option Ko:=
 some (s3,b0,b0_1,b1,b1_1,b1_2,b1_3,b1_4,b1_5,b1_6,b1_7,b2,b3,b4,b4_1)
abbrev ZE3 (b0:Int) (b0_1:Bool) (b4:Int) (b4_1:Bool) (s12:List A) (i:Nat) (s:Zj5):Zao:=(s.1,s12,(s12.length:Int),(i:Int),b0,b0_1,s.2.1,s.2.2.1,s.2.2.2.1,s.2.2.2.2.1,s.2.2.2.2.2.1,s.2.2.2.2.2.2.1,s.2.2.2.2.2.2.2.1,s.2.2.2.2.2.2.2.2.1,s.2.2.2.2.2.2.2.2.2.1,s.2.2.2.2.2.2.2.2.2.2,b4,b4_1)
def Zkp (b0:Int) (b0_1:Bool) (b4:Int) (b4_1:Bool) (s12:List A) (s:Zj5):Option Ko:=Zq (fun i s d=>Wt b0 b0_1 b4 b4_1 s12 i s.1 s.2.1 s.2.2.1 s.2.2.2.1 s.2.2.2.2.1 s.2.2.2.2.2.1 s.2.2.2.2.2.2.1 s.2.2.2.2.2.2.2.1 s.2.2.2.2.2.2.2.2.1 s.2.2.2.2.2.2.2.2.2.1 s.2.2.2.2.2.2.2.2.2.2 d) (fun s=>Zkf b0 b0_1 b4 b4_1 s12 s.1 s.2.1 s.2.2.1 s.2.2.2.1 s.2.2.2.2.1 s.2.2.2.2.2.1 s.2.2.2.2.2.2.1 s.2.2.2.2.2.2.2.1 s.2.2.2.2.2.2.2.2.1 s.2.2.2.2.2.2.2.2.2.1 s.2.2.2.2.2.2.2.2.2.2) 0 s12 s
theorem ZEX (b0:Int) (b0_1:Bool) (b4:Int) (b4_1:Bool) (s12:List A) (s:Zj5) (hl:s12.length<9223372036854775807):ZcZ (s.1,s12,(s12.length:Int),0,b0,b0_1,s.2.1,s.2.2.1,s.2.2.2.1,s.2.2.2.2.1,s.2.2.2.2.2.1,s.2.2.2.2.2.2.1,s.2.2.2.2.2.2.2.1,s.2.2.2.2.2.2.2.2.1,s.2.2.2.2.2.2.2.2.2.1,s.2.2.2.2.2.2.2.2.2.2,b4,b4_1)=Zkp b0 b0_1 b4 b4_1 s12 s:=by
 unfold ZcZ Zkp
 refine Zs s12 (ZE3 b0 b0_1 b4 b4_1 s12) _ _ ?_ ?_ s (by unfold Zr;omega)
 ·intro i s d hi hd
  have e1:decide ((i:Int)<(s12.length:Int))=true:=dT0 (by omega)
  have e2:decide (0≤(i:Int))=true:=dT0 (by omega)
  have e3:Int.toNat (i:Int)=i:=tN0 i
  have e4:=Zu hi (Nat.le_of_lt hl)
  show ZbT (s.1) (s12) ((s12.length:Int)) ((i:Int)) (b0) (b0_1) (s.2.1) (s.2.2.1) (s.2.2.2.1) (s.2.2.2.2.1) (s.2.2.2.2.2.1) (s.2.2.2.2.2.2.1) (s.2.2.2.2.2.2.2.1) (s.2.2.2.2.2.2.2.2.1) (s.2.2.2.2.2.2.2.2.2.1) (s.2.2.2.2.2.2.2.2.2.2) (b4) (b4_1)=upd _ (Wt b0 b0_1 b4 b4_1 s12 i s.1 s.2.1 s.2.2.1 s.2.2.2.1 s.2.2.2.2.1 s.2.2.2.2.2.1 s.2.2.2.2.2.2.1 s.2.2.2.2.2.2.2.1 s.2.2.2.2.2.2.2.2.1 s.2.2.2.2.2.2.2.2.2.1 s.2.2.2.2.2.2.2.2.2.2 d)
  unfold ZbT Wt
  simp only [e1,e2,e3,e4,hd,cond_true,cond_false,Zc,ZD,ZG,ZE,ZK,ZL,ZF]
 ·intro s
  have e1:decide ((s12.length:Int)<(s12.length:Int))=false:=dF0 (by omega)
  show ZbT (s.1) (s12) ((s12.length:Int)) ((s12.length:Int)) (b0) (b0_1) (s.2.1) (s.2.2.1) (s.2.2.2.1) (s.2.2.2.2.1) (s.2.2.2.2.2.1) (s.2.2.2.2.2.2.1) (s.2.2.2.2.2.2.2.1) (s.2.2.2.2.2.2.2.2.1) (s.2.2.2.2.2.2.2.2.2.1) (s.2.2.2.2.2.2.2.2.2.2) (b4) (b4_1)=_
  unfold ZbT Zkf
  rw [e1]
  rfl
def Zf1 (s1 s2 s13 s14:Int) (b32153036021279864200481066319758226432430515945481:List O) (b8:Bool) (b8_1 b8_2 b8_3:List I) (b8_4 b8_5:Int) (b8_6:Bool) (b8_7 b8_8 b8_9:List I) (b8_10 b8_11:Int) (b8_12:List Int) (b8_13:List En) (b8_14:List Ac) (b0:Int) (b0_1:Bool) (b1 b1_1:List Int) (b1_2:Int) (b1_3:List C) (b1_4:Int) (b1_5:List En) (b1_6:List A) (b1_7:List Int) (b2:List E) (b3:List Int) (b4:Int) (b4_1:Bool) (b32153036021279864200481066319758226432430515945482:List En) (b32153036021279864200481066319758226432430515945483:List Ac) (s39:List Int) (i:Nat) (b32153036021279864200481066319758226432430515945484:List Al) (d:Int):Option ((List Al)⊕Kp):=
 bif decide ((b32153036021279864200481066319758226432430515945484.length+[(1,s1,s2,d,0,0)].length+1)*48≤lim) then
  some (.inl (b32153036021279864200481066319758226432430515945484++[(1,s1,s2,d,0,0)]))
 else none
def Zkg (s1 s2 s13 s14:Int) (b32153036021279864200481066319758226432430515945481:List O) (b8:Bool) (b8_1 b8_2 b8_3:List I) (b8_4 b8_5:Int) (b8_6:Bool) (b8_7 b8_8 b8_9:List I) (b8_10 b8_11:Int) (b8_12:List Int) (b8_13:List En) (b8_14:List Ac) (b0:Int) (b0_1:Bool) (b1 b1_1:List Int) (b1_2:Int) (b1_3:List C) (b1_4:Int) (b1_5:List En) (b1_6:List A) (b1_7:List Int) (b2:List E) (b3:List Int) (b4:Int) (b4_1:Bool) (b32153036021279864200481066319758226432430515945482:List En) (b32153036021279864200481066319758226432430515945483:List Ac) (s39:List Int) (b32153036021279864200481066319758226432430515945484:List Al):Option Kp:=
 some (s1,s2,s13,s14,b32153036021279864200481066319758226432430515945481,b8,b8_1,b8_2,b8_3,b8_4,b8_5,b8_6,b8_7,b8_8,b8_9,b8_10,b8_11,b8_12,b8_13,b8_14,b0,b0_1,b1,b1_1,b1_2,b1_3,b1_4,b1_5,b1_6,b1_7,b2,b3,b4,b4_1,b32153036021279864200481066319758226432430515945482,b32153036021279864200481066319758226432430515945483,b32153036021279864200481066319758226432430515945484)
abbrev ZE4 (s1 s2 s13 s14:Int) (b32153036021279864200481066319758226432430515945481:List O) (b8:Bool) (b8_1 b8_2 b8_3:List I) (b8_4 b8_5:Int) (b8_6:Bool) (b8_7 b8_8 b8_9:List I) (b8_10 b8_11:Int) (b8_12:List Int) (b8_13:List En) (b8_14:List Ac) (b0:Int) (b0_1:Bool) (b1 b1_1:List Int) (b1_2:Int) (b1_3:List C) (b1_4:Int) (b1_5:List En) (b1_6:List A) (b1_7:List Int) (b2:List E) (b3:List Int) (b4:Int) (b4_1:Bool) (b32153036021279864200481066319758226432430515945482:List En) (b32153036021279864200481066319758226432430515945483:List Ac) (s39:List Int) (i:Nat) (s:List Al):Zap:=(s1,s2,s13,s14,s39,(s39.length:Int),(i:Int),b32153036021279864200481066319758226432430515945481,b8,b8_1,b8_2,b8_3,b8_4,b8_5,b8_6,b8_7,b8_8,b8_9,b8_10,b8_11,b8_12,b8_13,b8_14,b0,b0_1,b1,b1_1,b1_2,b1_3,b1_4,b1_5,b1_6,b1_7,b2,b3,b4,b4_1,b32153036021279864200481066319758226432430515945482,b32153036021279864200481066319758226432430515945483,s)
def Zkq (s1 s2 s13 s14:Int) (b32153036021279864200481066319758226432430515945481:List O) (b8:Bool) (b8_1 b8_2 b8_3:List I) (b8_4 b8_5:Int) (b8_6:Bool) (b8_7 b8_8 b8_9:List I) (b8_10 b8_11:Int) (b8_12:List Int) (b8_13:List En) (b8_14:List Ac) (b0:Int) (b0_1:Bool) (b1 b1_1:List Int) (b1_2:Int) (b1_3:List C) (b1_4:Int) (b1_5:List En) (b1_6:List A) (b1_7:List Int) (b2:List E) (b3:List Int) (b4:Int) (b4_1:Bool) (b32153036021279864200481066319758226432430515945482:List En) (b32153036021279864200481066319758226432430515945483:List Ac) (s39:List Int) (s:List Al):Option Kp:=Zq (fun i s d=>Zf1 s1 s2 s13 s14 b32153036021279864200481066319758226432430515945481 b8 b8_1 b8_2 b8_3 b8_4 b8_5 b8_6 b8_7 b8_8 b8_9 b8_10 b8_11 b8_12 b8_13 b8_14 b0 b0_1 b1 b1_1 b1_2 b1_3 b1_4 b1_5 b1_6 b1_7 b2 b3 b4 b4_1 b32153036021279864200481066319758226432430515945482 b32153036021279864200481066319758226432430515945483 s39 i s d) (fun s=>Zkg s1 s2 s13 s14 b32153036021279864200481066319758226432430515945481 b8 b8_1 b8_2 b8_3 b8_4 b8_5 b8_6 b8_7 b8_8 b8_9 b8_10 b8_11 b8_12 b8_13 b8_14 b0 b0_1 b1 b1_1 b1_2 b1_3 b1_4 b1_5 b1_6 b1_7 b2 b3 b4 b4_1 b32153036021279864200481066319758226432430515945482 b32153036021279864200481066319758226432430515945483 s39 s) 0 s39 s
theorem ZEY (s1 s2 s13 s14:Int) (b32153036021279864200481066319758226432430515945481:List O) (b8:Bool) (b8_1 b8_2 b8_3:List I) (b8_4 b8_5:Int) (b8_6:Bool) (b8_7 b8_8 b8_9:List I) (b8_10 b8_11:Int) (b8_12:List Int) (b8_13:List En) (b8_14:List Ac) (b0:Int) (b0_1:Bool) (b1 b1_1:List Int) (b1_2:Int) (b1_3:List C) (b1_4:Int) (b1_5:List En) (b1_6:List A) (b1_7:List Int) (b2:List E) (b3:List Int) (b4:Int) (b4_1:Bool) (b32153036021279864200481066319758226432430515945482:List En) (b32153036021279864200481066319758226432430515945483:List Ac) (s39:List Int) (s:List Al) (hl:s39.length<9223372036854775807):Zhe (s1,s2,s13,s14,s39,(s39.length:Int),0,b32153036021279864200481066319758226432430515945481,b8,b8_1,b8_2,b8_3,b8_4,b8_5,b8_6,b8_7,b8_8,b8_9,b8_10,b8_11,b8_12,b8_13,b8_14,b0,b0_1,b1,b1_1,b1_2,b1_3,b1_4,b1_5,b1_6,b1_7,b2,b3,b4,b4_1,b32153036021279864200481066319758226432430515945482,b32153036021279864200481066319758226432430515945483,s)=Zkq s1 s2 s13 s14 b32153036021279864200481066319758226432430515945481 b8 b8_1 b8_2 b8_3 b8_4 b8_5 b8_6 b8_7 b8_8 b8_9 b8_10 b8_11 b8_12 b8_13 b8_14 b0 b0_1 b1 b1_1 b1_2 b1_3 b1_4 b1_5 b1_6 b1_7 b2 b3 b4 b4_1 b32153036021279864200481066319758226432430515945482 b32153036021279864200481066319758226432430515945483 s39 s:=by
 unfold Zhe Zkq
 refine Zs s39 (ZE4 s1 s2 s13 s14 b32153036021279864200481066319758226432430515945481 b8 b8_1 b8_2 b8_3 b8_4 b8_5 b8_6 b8_7 b8_8 b8_9 b8_10 b8_11 b8_12 b8_13 b8_14 b0 b0_1 b1 b1_1 b1_2 b1_3 b1_4 b1_5 b1_6 b1_7 b2 b3 b4 b4_1 b32153036021279864200481066319758226432430515945482 b32153036021279864200481066319758226432430515945483 s39) _ _ ?_ ?_ s (by unfold Zr;omega)
 ·intro i s d hi hd
  have e1:decide ((i:Int)<(s39.length:Int))=true:=dT0 (by omega)
  have e2:decide (0≤(i:Int))=true:=dT0 (by omega)
  have e3:Int.toNat (i:Int)=i:=tN0 i
  have e4:=Zu hi (Nat.le_of_lt hl)
  show ZbU (s1) (s2) (s13) (s14) (s39) ((s39.length:Int)) ((i:Int)) (b32153036021279864200481066319758226432430515945481) (b8) (b8_1) (b8_2) (b8_3) (b8_4) (b8_5) (b8_6) (b8_7) (b8_8) (b8_9) (b8_10) (b8_11) (b8_12) (b8_13) (b8_14) (b0) (b0_1) (b1) (b1_1) (b1_2) (b1_3) (b1_4) (b1_5) (b1_6) (b1_7) (b2) (b3) (b4) (b4_1) (b32153036021279864200481066319758226432430515945482) (b32153036021279864200481066319758226432430515945483) (s)=upd _ (Zf1 s1 s2 s13 s14 b32153036021279864200481066319758226432430515945481 b8 b8_1 b8_2 b8_3 b8_4 b8_5 b8_6 b8_7 b8_8 b8_9 b8_10 b8_11 b8_12 b8_13 b8_14 b0 b0_1 b1 b1_1 b1_2 b1_3 b1_4 b1_5 b1_6 b1_7 b2 b3 b4 b4_1 b32153036021279864200481066319758226432430515945482 b32153036021279864200481066319758226432430515945483 s39 i s d)
  unfold ZbU Zf1
  simp only [e1,e2,e3,e4,hd,cond_true,cond_false,Zc,ZD,ZG,ZE,ZK,ZL,ZF]
 ·intro s
  have e1:decide ((s39.length:Int)<(s39.length:Int))=false:=dF0 (by omega)
  show ZbU (s1) (s2) (s13) (s14) (s39) ((s39.length:Int)) ((s39.length:Int)) (b32153036021279864200481066319758226432430515945481) (b8) (b8_1) (b8_2) (b8_3) (b8_4) (b8_5) (b8_6) (b8_7) (b8_8) (b8_9) (b8_10) (b8_11) (b8_12) (b8_13) (b8_14) (b0) (b0_1) (b1) (b1_1) (b1_2) (b1_3) (b1_4) (b1_5) (b1_6) (b1_7) (b2) (b3) (b4) (b4_1) (b32153036021279864200481066319758226432430515945482) (b32153036021279864200481066319758226432430515945483) (s)=_
  unfold ZbU Zkg
  rw [e1]
  rfl
abbrev Zs3:Type:=(Int×(List En)×(List A)×Int×Int×(List Int)×(List Int)×Int×(List C)×Int×Bool×(List Int)×(List E)×(List Int)×Int×Bool×(List En)×(List Ac)×(List Al)×Bool×(List I)×(List I)×(List I)×Int×Int×Bool×(List I)×(List I)×(List I)×Int×Int×(List Int)×(List En)×(List Ac))
abbrev ZhU:Type:=(Int×(List En)×(List A)×Int×(List Int)×(List Int)×Int×(List C)×Int×Bool×(List Int)×(List E)×(List Int)×Int×Bool×(List En)×(List Ac)×(List Al))
abbrev Zs4:Type:=(Int×(List En)×(List A)×Bool×Int×(List Int)×(List Int)×Int×(List C)×Int×Bool×(List Int)×(List E)×(List Int)×Int×Bool)
abbrev Zs5:Type:=(Int×(List En)×(List A)×Bool×(List Int)×(List Int)×Int×(List C)×Int×Bool×(List Int)×(List E)×(List Int)×Int×Bool)
abbrev ZhV:Type:=(Int×(List En)×(List A)×(List Int)×(List Int)×Int×(List C)×Int×Bool×(List Int)×(List E)×(List Int)×Int×Bool)
abbrev Zs6:Type:=(Int×Bool×(List Int)×(List E)×(List Int)×Int×Bool×(List En)×(List Ac)×(List Al))
abbrev Hw:=Zs4
abbrev JJ:=Zs5
def Zaa (s1:Int) (s2:List En) (s7:List A) (s10:Bool) (s11:Int) (b0 b0_1:List Int) (b0_2:Int) (b0_3:List C) (b1:Int) (b1_1:Bool) (b2:List Int) (b3:List E) (b4:List Int) (b5:Int) (b5_1:Bool):Option (Zs4⊕Zs5):=bif decide (s11<(s7.length:Int)) then bif decide (0≤s11) then Za b3[s11.toNat]? none fun d21=>Za b3[s11.toNat]? none fun d22=>Za (Zaz ((b0,b0_1,b0_2,b0_3),s1,s11,d22,s2,())) none fun d23=>bif decide (0≤s11) then Za s7[s11.toNat]? none fun d24=>Za (Hj ((),s11,d24.2.2.2.2.2.2.2.1,d23.1,()) (((),(),b2,()),b3,b4,())) none fun d25=>bif decide (0≤s11) then Za s7[s11.toNat]? none fun d26=>Za (Hj ((),s11,d26.2.2.2.2.2.2.2.2,d23.2.1,()) (((),(),d25.2.1.2.2.1,()),d25.2.2.1,d25.2.2.2.1,())) none fun d27=>bif s10 then some (.inl (s1,s2,s7,true,IntKind.i64.wrap (s11+1),b0,b0_1,b0_2,b0_3,b1,b1_1,d27.2.1.2.2.1,d27.2.2.1,d27.2.2.2.1,b5,b5_1)) else bif d25.1 then some (.inl (s1,s2,s7,true,IntKind.i64.wrap (s11+1),b0,b0_1,b0_2,b0_3,b1,b1_1,d27.2.1.2.2.1,d27.2.2.1,d27.2.2.2.1,b5,b5_1)) else some (.inl (s1,s2,s7,d27.1,IntKind.i64.wrap (s11+1),b0,b0_1,b0_2,b0_3,b1,b1_1,d27.2.1.2.2.1,d27.2.2.1,d27.2.2.2.1,b5,b5_1)) else none else none else none else some (.inr (s1,s2,s7,s10,b0,b0_1,b0_2,b0_3,b1,b1_1,b2,b3,b4,b5,b5_1))
def ZnL:Hw→Option (Hw⊕JJ):=fun (a,b,c,d,e,f,g,h,i,j,k,l,m,n,o,p)=>Zaa a b c d e f g h i j k l m n o p
def ZaV (x:Hw):Option JJ:=Zn ZnL Zr x
abbrev Za0:=ZhV
abbrev Zcc:=ZhV
def ZdY (s1:Int) (s2:List En) (s7:List A) (b0 b0_1:List Int) (b0_2:Int) (b0_3:List C) (b1:Int) (b1_1:Bool) (b2:List Int) (b3:List E) (b4:List Int) (b5:Int) (b5_1:Bool):Option (ZhV⊕ZhV):=bif !b5_1 then bif decide (b5<100) then Za (ZaV (s1,s2,s7,false,0,b0,b0_1,b0_2,b0_3,b1,b1_1,b2,b3,b4,b5,b5_1)) none fun d19=>some (.inl (d19.1,d19.2.1,d19.2.2.1,d19.2.2.2.2.1,d19.2.2.2.2.2.1,d19.2.2.2.2.2.2.1,d19.2.2.2.2.2.2.2.1,d19.2.2.2.2.2.2.2.2.1,d19.2.2.2.2.2.2.2.2.2.1,d19.2.2.2.2.2.2.2.2.2.2.1,d19.2.2.2.2.2.2.2.2.2.2.2.1,d19.2.2.2.2.2.2.2.2.2.2.2.2.1,IntKind.i64.wrap (d19.2.2.2.2.2.2.2.2.2.2.2.2.2.1+1),!d19.2.2.2.1)) else some (.inr (s1,s2,s7,b0,b0_1,b0_2,b0_3,b1,b1_1,b2,b3,b4,b5,b5_1)) else some (.inr (s1,s2,s7,b0,b0_1,b0_2,b0_3,b1,b1_1,b2,b3,b4,b5,b5_1))
def YK:Za0→Option (Za0⊕Zcc):=fun (a,b,c,d,e,f,g,h,i,j,k,l,m,n)=>ZdY a b c d e f g h i j k l m n
def ZeG (x:Za0):Option Zcc:=Zn YK Zr x
abbrev Hx:=Zs3
abbrev JK:=ZhU
def Zab (s1:Int) (s2:List En) (s7:List A) (s15 s17:Int) (b0 b0_1:List Int) (b0_2:Int) (b0_3:List C) (b1:Int) (b1_1:Bool) (b2:List Int) (b3:List E) (b4:List Int) (b5:Int) (b5_1:Bool) (b6:List En) (b7:List Ac) (b8:List Al) (b9:Bool) (b9_1 b9_2 b9_3:List I) (b9_4 b9_5:Int) (b9_6:Bool) (b9_7 b9_8 b9_9:List I) (b9_10 b9_11:Int) (b9_12:List Int) (b9_13:List En) (b9_14:List Ac):Option (Zs3⊕ZhU):=bif decide (s17<(b9_12.length:Int)) then bif decide (0≤s17) then Za b9_12[s17.toNat]? none fun d39=>bif decide ((b8.length+[(1,s1,s15,d39,0,0)].length+1)*48≤lim) then some (.inl (s1,s2,s7,s15,IntKind.i64.wrap (s17+1),b0,b0_1,b0_2,b0_3,b1,b1_1,b2,b3,b4,b5,b5_1,b6,b7,b8++[(1,s1,s15,d39,0,0)],b9,b9_1,b9_2,b9_3,b9_4,b9_5,b9_6,b9_7,b9_8,b9_9,b9_10,b9_11,b9_12,b9_13,b9_14)) else none else none else some (.inr (s1,s2,s7,s15,b0,b0_1,b0_2,b0_3,b1,b1_1,b2,b3,b4,b5,b5_1,b6,b7,b8))
def ZnM:Hx→Option (Hx⊕JK):=fun (a,b,c,d,e,f,g,h,i,j,k,l,m,n,o,p,q,r,s,t,u,w,y,z,au,aw,ay,az,bu,bw,bz,cu,cw,cy)=>Zab a b c d e f g h i j k l m n o p q r s t u w y z au aw ay az bu bw bz cu cw cy
def ZaW (x:Hx):Option JK:=Zn ZnM Zr x
abbrev Za1:=ZhU
abbrev Zcd:=Zs6
def ZiO (s1:Int) (s2:List En) (s7:List A) (s15:Int) (b0 b0_1:List Int) (b0_2:Int) (b0_3:List C) (b1:Int) (b1_1:Bool) (b2:List Int) (b3:List E) (b4:List Int) (b5:Int) (b5_1:Bool) (b6:List En) (b7:List Ac) (b8:List Al):Option (ZhU⊕Zs6):=bif decide (s15<(s7.length:Int)) then bif decide (0≤s15) then Za b3[s15.toNat]? none fun d23=>Za b3[s15.toNat]? none fun d24=>Za (Zaz ((b0,b0_1,b0_2,b0_3),s1,s15,d24,s2,())) none fun d25=>Za (Zih (b6,d25.2.2.2.1,())) none fun d26=>bif decide ((b7.length+List.length d25.2.2.2.2+1)*48≤lim) then Za (ZaW (s1,s2,s7,s15,0,b0,b0_1,b0_2,b0_3,b1,b1_1,b2,b3,b4,b5,b5_1,d26,b7++d25.2.2.2.2,b8,d25.1.1,d25.1.2.1,d25.1.2.2.1,d25.1.2.2.2.1,d25.1.2.2.2.2.1,d25.1.2.2.2.2.2,d25.2.1.1,d25.2.1.2.1,d25.2.1.2.2.1,d25.2.1.2.2.2.1,d25.2.1.2.2.2.2.1,d25.2.1.2.2.2.2.2,d25.2.2)) none fun d27=>some (.inl (d27.1,d27.2.1,d27.2.2.1,IntKind.i64.wrap (d27.2.2.2.1+1),d27.2.2.2.2.1,d27.2.2.2.2.2.1,d27.2.2.2.2.2.2.1,d27.2.2.2.2.2.2.2.1,d27.2.2.2.2.2.2.2.2.1,d27.2.2.2.2.2.2.2.2.2.1,d27.2.2.2.2.2.2.2.2.2.2.1,d27.2.2.2.2.2.2.2.2.2.2.2.1,d27.2.2.2.2.2.2.2.2.2.2.2.2.1,d27.2.2.2.2.2.2.2.2.2.2.2.2.2.1,d27.2.2.2.2.2.2.2.2.2.2.2.2.2.2.1,d27.2.2.2.2.2.2.2.2.2.2.2.2.2.2.2.1,d27.2.2.2.2.2.2.2.2.2.2.2.2.2.2.2.2.1,d27.2.2.2.2.2.2.2.2.2.2.2.2.2.2.2.2.2)) else none else none else some (.inr (b1,b1_1,b2,b3,b4,b5,b5_1,b6,b7,b8))
def Zag:Za1→Option (Za1⊕Zcd):=fun (a,b,c,d,e,f,g,h,i,j,k,l,m,n,o,p,q,r)=>ZiO a b c d e f g h i j k l m n o p q r
def ZeH (x:Za1):Option Zcd:=Zn Zag Zr x
def ZoJ (a0:U) (a1:Int) (a2:List En):Option Re:=bif decide (0≤a1) then Za a0.2.2.2[a1.toNat]? none fun d8=>bif decide (0≤(List.length d8.2:Int)∧(List.length d8.2:Int)=(List.length d8.2:Int)∧(List.length d8.2:Int).toNat*(96+1)≤lim) then bif decide (0≤(List.length d8.2:Int)∧(List.length d8.2:Int)=(List.length d8.2:Int)∧(List.length d8.2:Int).toNat*(8+1)≤lim) then Za (ZlT (a0,())) none fun d9=>Za (Zep (a0,a1,())) none fun d10=>Za (List.replicate (List.length d8.2:Int).toNat ((false,[],[],[],0,0):E))[Int.toNat (0:Int)]? none fun d11=>Za (List.replicate (List.length d8.2:Int).toNat ((false,[],[],[],0,0):E))[Int.toNat (0:Int)]? none fun d12=>Za (ZeG (a1,a2,d8.2,a0.1,a0.2.1,a0.2.2.1,a0.2.2.2,0,false,d9,(List.replicate (List.length d8.2:Int).toNat ((false,[],[],[],0,0):E)).set (Int.toNat (0:Int)) d10,List.replicate (List.length d8.2:Int).toNat 0,0,false)) none fun d13=>Za (ZeH (d13.1,d13.2.1,d13.2.2.1,0,d13.2.2.2.1,d13.2.2.2.2.1,d13.2.2.2.2.2.1,d13.2.2.2.2.2.2.1,d13.2.2.2.2.2.2.2.1,d13.2.2.2.2.2.2.2.2.1,d13.2.2.2.2.2.2.2.2.2.1,d13.2.2.2.2.2.2.2.2.2.2.1,d13.2.2.2.2.2.2.2.2.2.2.2.1,d13.2.2.2.2.2.2.2.2.2.2.2.2.1,d13.2.2.2.2.2.2.2.2.2.2.2.2.2,[],[],[])) none fun d14=>some (d14.2.2.2.1,d14.2.2.2.2.2.2.2.1,d14.2.2.2.2.2.2.2.2.1,d14.2.2.2.2.2.2.2.2.2,d14.2.2.2.2.2.1,d14.2.2.2.2.2.2.1) else none else none else none
def YI (s1:Int) (s2:List En) (b0 b0_1:List Int) (b0_2:Int) (b0_3:List C) (b1:Int) (b1_1:Bool) (b5:Int) (b5_1:Bool) (s7:List A) (i:Nat) (s10:Bool) (b2:List Int) (b3:List E) (b4:List Int) (d:A):Option ((Bool×(List Int)×(List E)×(List Int))⊕JJ):=
 Za b3[i]? (none) fun d21=>
  Za b3[i]? (none) fun d22=>
  Za (Zaz ((b0,b0_1,b0_2,b0_3),s1,(i:Int),d22,s2,())) (none) fun d23=>
  Za (Hj ((),(i:Int),d.2.2.2.2.2.2.2.1,d23.1,()) (((),(),b2,()),b3,b4,())) (none) fun d25=>
  Za (Hj ((),(i:Int),d.2.2.2.2.2.2.2.2,d23.2.1,()) (((),(),d25.2.1.2.2.1,()),d25.2.2.1,d25.2.2.2.1,())) (none) fun d27=>
  bif s10 then
  some (.inl (true,d27.2.1.2.2.1,d27.2.2.1,d27.2.2.2.1))
 else bif d25.1 then
  some (.inl (true,d27.2.1.2.2.1,d27.2.2.1,d27.2.2.2.1))
 else some (.inl (d27.1,d27.2.1.2.2.1,d27.2.2.1,d27.2.2.2.1))
def Zit (s1:Int) (s2:List En) (b0 b0_1:List Int) (b0_2:Int) (b0_3:List C) (b1:Int) (b1_1:Bool) (b5:Int) (b5_1:Bool) (s7:List A) (s10:Bool) (b2:List Int) (b3:List E) (b4:List Int):Option JJ:=
 some (s1,s2,s7,s10,b0,b0_1,b0_2,b0_3,b1,b1_1,b2,b3,b4,b5,b5_1)
abbrev ZBS (s1:Int) (s2:List En) (b0 b0_1:List Int) (b0_2:Int) (b0_3:List C) (b1:Int) (b1_1:Bool) (b5:Int) (b5_1:Bool) (s7:List A) (i:Nat) (s:Bool×(List Int)×(List E)×(List Int)):Hw:=(s1,s2,s7,s.1,(i:Int),b0,b0_1,b0_2,b0_3,b1,b1_1,s.2.1,s.2.2.1,s.2.2.2,b5,b5_1)
def ZiI (s1:Int) (s2:List En) (b0 b0_1:List Int) (b0_2:Int) (b0_3:List C) (b1:Int) (b1_1:Bool) (b5:Int) (b5_1:Bool) (s7:List A) (s:Bool×(List Int)×(List E)×(List Int)):Option JJ:=Zq (fun i s d=>YI s1 s2 b0 b0_1 b0_2 b0_3 b1 b1_1 b5 b5_1 s7 i s.1 s.2.1 s.2.2.1 s.2.2.2 d) (fun s=>Zit s1 s2 b0 b0_1 b0_2 b0_3 b1 b1_1 b5 b5_1 s7 s.1 s.2.1 s.2.2.1 s.2.2.2) 0 s7 s
theorem ZBG (s1:Int) (s2:List En) (b0 b0_1:List Int) (b0_2:Int) (b0_3:List C) (b1:Int) (b1_1:Bool) (b5:Int) (b5_1:Bool) (s7:List A) (s:Bool×(List Int)×(List E)×(List Int)) (hl:s7.length<9223372036854775807):ZaV (s1,s2,s7,s.1,0,b0,b0_1,b0_2,b0_3,b1,b1_1,s.2.1,s.2.2.1,s.2.2.2,b5,b5_1)=ZiI s1 s2 b0 b0_1 b0_2 b0_3 b1 b1_1 b5 b5_1 s7 s:=by
 unfold ZaV ZiI
 refine Zs s7 (ZBS s1 s2 b0 b0_1 b0_2 b0_3 b1 b1_1 b5 b5_1 s7) _ _ ?_ ?_ s (by unfold Zr;omega)
 ·intro i s d hi hd
  have e1:decide ((i:Int)<(s7.length:Int))=true:=dT0 (by omega)
  have e2:decide (0≤(i:Int))=true:=dT0 (by omega)
  have e3:Int.toNat (i:Int)=i:=tN0 i
  have e4:=Zu hi (Nat.le_of_lt hl)
  show Zaa (s1) (s2) (s7) (s.1) ((i:Int)) (b0) (b0_1) (b0_2) (b0_3) (b1) (b1_1) (s.2.1) (s.2.2.1) (s.2.2.2) (b5) (b5_1)=upd _ (YI s1 s2 b0 b0_1 b0_2 b0_3 b1 b1_1 b5 b5_1 s7 i s.1 s.2.1 s.2.2.1 s.2.2.2 d)
  unfold Zaa YI
  simp only [e1,e2,e3,e4,hd,cond_true,cond_false,Zc,ZD,ZG,ZE,ZK,ZL,ZF]
 ·intro s
  have e1:decide ((s7.length:Int)<(s7.length:Int))=false:=dF0 (by omega)
  show Zaa (s1) (s2) (s7) (s.1) ((s7.length:Int)) (b0) (b0_1) (b0_2) (b0_3) (b1) (b1_1) (s.2.1) (s.2.2.1) (s.2.2.2) (b5) (b5_1)=_
  unfold Zaa Zit
  rw [e1]
  rfl
def Zdw (s1:Int) (s2:List En) (s7:List A) (s15:Int) (b0 b0_1:List Int) (b0_2:Int) (b0_3:List C) (b1:Int) (b1_1:Bool) (b2:List Int) (b3:List E) (b4:List Int) (b5:Int) (b5_1:Bool) (b6:List En) (b7:List Ac) (b9:Bool) (b9_1 b9_2 b9_3:List I) (b9_4 b9_5:Int) (b9_6:Bool) (b9_7 b9_8 b9_9:List I) (b9_10 b9_11:Int) (b9_13:List En) (b9_14:List Ac) (b9_12:List Int) (i:Nat) (b8:List Al) (d:Int):Option ((List Al)⊕JK):=
 bif decide ((b8.length+[(1,s1,s15,d,0,0)].length+1)*48≤lim) then
  some (.inl (b8++[(1,s1,s15,d,0,0)]))
 else none
def Ziu (s1:Int) (s2:List En) (s7:List A) (s15:Int) (b0 b0_1:List Int) (b0_2:Int) (b0_3:List C) (b1:Int) (b1_1:Bool) (b2:List Int) (b3:List E) (b4:List Int) (b5:Int) (b5_1:Bool) (b6:List En) (b7:List Ac) (b9:Bool) (b9_1 b9_2 b9_3:List I) (b9_4 b9_5:Int) (b9_6:Bool) (b9_7 b9_8 b9_9:List I) (b9_10 b9_11:Int) (b9_13:List En) (b9_14:List Ac) (b9_12:List Int) (b8:List Al):Option JK:=
 some (s1,s2,s7,s15,b0,b0_1,b0_2,b0_3,b1,b1_1,b2,b3,b4,b5,b5_1,b6,b7,b8)
abbrev ZBT (s1:Int) (s2:List En) (s7:List A) (s15:Int) (b0 b0_1:List Int) (b0_2:Int) (b0_3:List C) (b1:Int) (b1_1:Bool) (b2:List Int) (b3:List E) (b4:List Int) (b5:Int) (b5_1:Bool) (b6:List En) (b7:List Ac) (b9:Bool) (b9_1 b9_2 b9_3:List I) (b9_4 b9_5:Int) (b9_6:Bool) (b9_7 b9_8 b9_9:List I) (b9_10 b9_11:Int) (b9_13:List En) (b9_14:List Ac) (b9_12:List Int) (i:Nat) (s:List Al):Hx:=(s1,s2,s7,s15,(i:Int),b0,b0_1,b0_2,b0_3,b1,b1_1,b2,b3,b4,b5,b5_1,b6,b7,s,b9,b9_1,b9_2,b9_3,b9_4,b9_5,b9_6,b9_7,b9_8,b9_9,b9_10,b9_11,b9_12,b9_13,b9_14)
def ZiJ (s1:Int) (s2:List En) (s7:List A) (s15:Int) (b0 b0_1:List Int) (b0_2:Int) (b0_3:List C) (b1:Int) (b1_1:Bool) (b2:List Int) (b3:List E) (b4:List Int) (b5:Int) (b5_1:Bool) (b6:List En) (b7:List Ac) (b9:Bool) (b9_1 b9_2 b9_3:List I) (b9_4 b9_5:Int) (b9_6:Bool) (b9_7 b9_8 b9_9:List I) (b9_10 b9_11:Int) (b9_13:List En) (b9_14:List Ac) (b9_12:List Int) (s:List Al):Option JK:=Zq (fun i s d=>Zdw s1 s2 s7 s15 b0 b0_1 b0_2 b0_3 b1 b1_1 b2 b3 b4 b5 b5_1 b6 b7 b9 b9_1 b9_2 b9_3 b9_4 b9_5 b9_6 b9_7 b9_8 b9_9 b9_10 b9_11 b9_13 b9_14 b9_12 i s d) (fun s=>Ziu s1 s2 s7 s15 b0 b0_1 b0_2 b0_3 b1 b1_1 b2 b3 b4 b5 b5_1 b6 b7 b9 b9_1 b9_2 b9_3 b9_4 b9_5 b9_6 b9_7 b9_8 b9_9 b9_10 b9_11 b9_13 b9_14 b9_12 s) 0 b9_12 s
theorem ZBH (s1:Int) (s2:List En) (s7:List A) (s15:Int) (b0 b0_1:List Int) (b0_2:Int) (b0_3:List C) (b1:Int) (b1_1:Bool) (b2:List Int) (b3:List E) (b4:List Int) (b5:Int) (b5_1:Bool) (b6:List En) (b7:List Ac) (b9:Bool) (b9_1 b9_2 b9_3:List I) (b9_4 b9_5:Int) (b9_6:Bool) (b9_7 b9_8 b9_9:List I) (b9_10 b9_11:Int) (b9_13:List En) (b9_14:List Ac) (b9_12:List Int) (s:List Al) (hl:b9_12.length<9223372036854775807):ZaW (s1,s2,s7,s15,0,b0,b0_1,b0_2,b0_3,b1,b1_1,b2,b3,b4,b5,b5_1,b6,b7,s,b9,b9_1,b9_2,b9_3,b9_4,b9_5,b9_6,b9_7,b9_8,b9_9,b9_10,b9_11,b9_12,b9_13,b9_14)=ZiJ s1 s2 s7 s15 b0 b0_1 b0_2 b0_3 b1 b1_1 b2 b3 b4 b5 b5_1 b6 b7 b9 b9_1 b9_2 b9_3 b9_4 b9_5 b9_6 b9_7 b9_8 b9_9 b9_10 b9_11 b9_13 b9_14 b9_12 s:=by
 unfold ZaW ZiJ
 refine Zs b9_12 (ZBT s1 s2 s7 s15 b0 b0_1 b0_2 b0_3 b1 b1_1 b2 b3 b4 b5 b5_1 b6 b7 b9 b9_1 b9_2 b9_3 b9_4 b9_5 b9_6 b9_7 b9_8 b9_9 b9_10 b9_11 b9_13 b9_14 b9_12) _ _ ?_ ?_ s (by unfold Zr;omega)
 ·intro i s d hi hd
  have e1:decide ((i:Int)<(b9_12.length:Int))=true:=dT0 (by omega)
  have e2:decide (0≤(i:Int))=true:=dT0 (by omega)
  have e3:Int.toNat (i:Int)=i:=tN0 i
  have e4:=Zu hi (Nat.le_of_lt hl)
  show Zab (s1) (s2) (s7) (s15) ((i:Int)) (b0) (b0_1) (b0_2) (b0_3) (b1) (b1_1) (b2) (b3) (b4) (b5) (b5_1) (b6) (b7) (s) (b9) (b9_1) (b9_2) (b9_3) (b9_4) (b9_5) (b9_6) (b9_7) (b9_8) (b9_9) (b9_10) (b9_11) (b9_12) (b9_13) (b9_14)=upd _ (Zdw s1 s2 s7 s15 b0 b0_1 b0_2 b0_3 b1 b1_1 b2 b3 b4 b5 b5_1 b6 b7 b9 b9_1 b9_2 b9_3 b9_4 b9_5 b9_6 b9_7 b9_8 b9_9 b9_10 b9_11 b9_13 b9_14 b9_12 i s d)
  unfold Zab Zdw
  simp only [e1,e2,e3,e4,hd,cond_true,cond_false,Zc,ZD,ZG,ZE,ZK,ZL,ZF]
 ·intro s
  have e1:decide ((b9_12.length:Int)<(b9_12.length:Int))=false:=dF0 (by omega)
  show Zab (s1) (s2) (s7) (s15) ((b9_12.length:Int)) (b0) (b0_1) (b0_2) (b0_3) (b1) (b1_1) (b2) (b3) (b4) (b5) (b5_1) (b6) (b7) (s) (b9) (b9_1) (b9_2) (b9_3) (b9_4) (b9_5) (b9_6) (b9_7) (b9_8) (b9_9) (b9_10) (b9_11) (b9_12) (b9_13) (b9_14)=_
  unfold Zab Ziu
  rw [e1]
  rfl
section
open Go.Proofs
def outV (u:U) (t n:Int) (e:E) (l:List En):O:=(Wy u t n e l).getD (Zf,Zf,[],[],[])
abbrev St3:=Bool×List E×List Int
def nodeV (u:U) (t:Int) (l:List En) (st:List Int) (i:Nat) (s:St3) (d:A):St3:=
 let o:=outV u t i ((s.2.1[i]?).getD Zf) l
 let r:=comeV st i d.2.2.2.2.2.2.2.1 o.1 s.2.1 s.2.2
 let q:=comeV st i d.2.2.2.2.2.2.2.2 o.2.1 r.2.1 r.2.2
 (s.1||r.1||q.1,q.2.1,q.2.2)
structure Inv (u:U) (t:Int) (k:Nat) (es:List E) (ns:List Int):Prop where
 ok:∀ x∈es,okE u t x
 le:es.length=k
 ln:ns.length=k
section
variable {u:U} {t:Int} {l:List En} {st:List Int} {c:C}
theorem ZjE (hu:unitOK u) (ht:0≤t) (hl:tabOK l) (hn:l.length≤1000) (hc:u.2.2.2[t.toNat]? = some c) {e:E} (he:okE u t e) {i:Nat} (hi:i<c.2.length) :
  Wy u t i e l=some (outV u t i e l)∧ZjW u t i e l=some (outV u t i e l)∧outOK u t i e (outV u t i e l)∧HC (outV u t i e l):=by
 obtain ⟨o,h1,h2,h3,h4⟩:=ZVi hu ht hl hn he.env (n:=(i:Int)) (by omega) hc (by omega)
 have:outV u t i e l=o:=by unfold outV;rw [h1];rfl
 rw [this]
 exact ⟨h1,h2,h3,h4⟩
theorem Zx0 (hu:unitOK u) (ht:0≤t) (hl:tabOK l) (hn:l.length≤1000) (hst:st.length<9223372036854775807) (hc:u.2.2.2[t.toNat]? = some c) {x0 x4:Int} {x1 x5:Bool} {b:Bool} {es:List E} {ns:List Int} (v:Inv u t c.2.length es ns) {i:Nat} {d:A} (hd:c.2[i]? = some d) :
  Wt x0 x1 x4 x5 c.2 i b u.1 u.2.1 u.2.2.1 u.2.2.2 t l c.2 st es ns d =
   some (.inl ((nodeV u t l st i (b,es,ns) d).1,u.1,u.2.1,u.2.2.1,u.2.2.2,t,l,c.2,st,(nodeV u t l st i (b,es,ns) d).2.1,(nodeV u t l st i (b,es,ns) d).2.2)) ∧
  YI t l u.1 u.2.1 u.2.2.1 u.2.2.2 x0 x1 x4 x5 c.2 i b st es ns d=some (.inl ((nodeV u t l st i (b,es,ns) d).1,st,(nodeV u t l st i (b,es,ns) d).2.1,(nodeV u t l st i (b,es,ns) d).2.2)) ∧
  Inv u t c.2.length (nodeV u t l st i (b,es,ns) d).2.1 (nodeV u t l st i (b,es,ns) d).2.2:=by
 have hi:=(List.getElem?_eq_some_iff.1 hd).1
 have ha:=(hu.ts c (mG0 hc)).a d (mG0 hd)
 have hie:i<es.length:=by rw [v.le];exact hi
 have ge:es[i]? = some es[i]:=List.getElem?_eq_getElem hie
 have he:=v.ok _ (List.getElem_mem hie)
 obtain ⟨o1,o2,o3,_⟩:=ZjE hu ht hl hn hc he hi
 have hx:=ha.nx
 have hy:=ha.el
 have c1:=ZEd (st:=st) (fr:=(i:Int)) (to:=d.2.2.2.2.2.2.2.1) (e:=(outV u t i es[i] l).1) (ns:=ns) v.ok o3.nx
 have c2:=ZEd (st:=st) (fr:=(i:Int)) (to:=d.2.2.2.2.2.2.2.2) (e:=(outV u t i es[i] l).2.1) (ns:=(comeV st i d.2.2.2.2.2.2.2.1 (outV u t i es[i] l).1 es ns).2.2) c1.1 o3.el
 have f1:=fun b0 b1 b2 b3 b4 b5 b6=>ZQK (b0:=b0) (b1:=b1) (b2:=b2) (b3:=b3) (b4:=b4) (b5:=b5) (b6:=b6) hu hst (fr:=(i:Int)) (to:=d.2.2.2.2.2.2.2.1) (ns:=ns) v.ok o3.nx hx.1 (by have:=v.le;omega) (by rw [v.ln,v.le])
 have f2:=fun b0 b1 b2 b3 b4 b5 b6=>ZQK (b0:=b0) (b1:=b1) (b2:=b2) (b3:=b3) (b4:=b4) (b5:=b5) (b6:=b6) hu hst (fr:=(i:Int)) (to:=d.2.2.2.2.2.2.2.2) (ns:=(comeV st i d.2.2.2.2.2.2.2.1 (outV u t i es[i] l).1 es ns).2.2) c1.1 o3.el hy.1 (by rw [c1.2.1];have:=v.le;omega) (by rw [c1.2.2,c1.2.1,v.ln,v.le])
 have r1:=ZSV hu hst (fr:=(i:Int)) (to:=d.2.2.2.2.2.2.2.1) (ns:=ns) v.ok o3.nx hx.1 (by have:=v.le;omega) (by rw [v.ln,v.le])
 have r2:=ZSV hu hst (fr:=(i:Int)) (to:=d.2.2.2.2.2.2.2.2) (ns:=(comeV st i d.2.2.2.2.2.2.2.1 (outV u t i es[i] l).1 es ns).2.2) c1.1 o3.el hy.1 (by rw [c1.2.1];have:=v.le;omega) (by rw [c1.2.2,c1.2.1,v.ln,v.le])
 have hN:nodeV u t l st i (b,es,ns) d=(b||(comeV st i d.2.2.2.2.2.2.2.1 (outV u t i es[i] l).1 es ns).1||(comeV st i d.2.2.2.2.2.2.2.2 (outV u t i es[i] l).2.1 (comeV st i d.2.2.2.2.2.2.2.1 (outV u t i es[i] l).1 es ns).2.1 (comeV st i d.2.2.2.2.2.2.2.1 (outV u t i es[i] l).1 es ns).2.2).1,
   (comeV st i d.2.2.2.2.2.2.2.2 (outV u t i es[i] l).2.1 (comeV st i d.2.2.2.2.2.2.2.1 (outV u t i es[i] l).1 es ns).2.1 (comeV st i d.2.2.2.2.2.2.2.1 (outV u t i es[i] l).1 es ns).2.2).2):=by
  unfold nodeV
  simp only [ge,Option.getD_some]
 rw [hN]
 refine ⟨?_,?_,⟨c2.1,c2.2.1.trans (c1.2.1.trans v.le),c2.2.2.trans (c1.2.2.trans v.ln)⟩⟩
 ·unfold Wt
  simp only [ge,Zc,ZcK,o1,Wp,f1,f2]
  cases b<;>cases (comeV st i d.2.2.2.2.2.2.2.1 (outV u t i es[i] l).1 es ns).1<;>rfl
 ·unfold YI
  simp only [ge,hd,Zc,Zaz,o2,Hj,r1,r2]
  cases b<;>cases (comeV st i d.2.2.2.2.2.2.2.1 (outV u t i es[i] l).1 es ns).1<;>rfl
end
end
section
open Go.Proofs
theorem ZJg {σ τ α Y:Type} {f:Nat→σ→α→Option (σ⊕Y)} {fin:σ→Option Y} (mkS:τ→σ) {g:Nat→τ→α→τ} {ok:τ→Prop} {L:List α} (h:∀ j s d,L[j]? = some d→ok s→f j (mkS s) d=some (.inl (mkS (g j s d)))∧ok (g j s d)) :
  ∀ (r:List α) (i:Nat) (s:τ),L.drop i=r→ok s→Zq f fin i r (mkS s)=fin (mkS (ZU g i r s))∧ok (ZU g i r s)
 | [],i,s,_,hs=>⟨rfl,hs⟩
 | d::r,i,s,hd,hs=>by
  have e:L[i]? = some d:=by
   have:=congrArg (fun q=>q[0]?) hd
   simpa using this
  obtain ⟨h1,h2⟩:=h i s d e hs
  rw [QB h1]
  exact ZJg mkS h r (i+1) (g i s d) (by rw [← List.drop_drop,hd];rfl) h2
def ZV (u:U) (t:Int) (l:List En) (st:List Int) (c:C) (es:List E) (ns:List Int):St3:=ZU (fun i s d=>nodeV u t l st i s d) 0 c.2 (false,es,ns)
def runV (u:U) (t:Int) (l:List En) (st:List Int) (c:C):Nat→List E→List Int→Int→Bool→List E×List Int×Int×Bool
 | 0,es,ns,r,d=>(es,ns,r,d)
 | n+1,es,ns,r,d=>bif d then (es,ns,r,d) else runV u t l st c n (ZV u t l st c es ns).2.1 (ZV u t l st c es ns).2.2 (r+1) (!(ZV u t l st c es ns).1)
section
variable {u:U} {t:Int} {l:List En} {st:List Int} {c:C}
theorem ZOe (hu:unitOK u) (ht:0≤t) (hl:tabOK l) (hn:l.length≤1000) (hst:st.length<9223372036854775807) (hc:u.2.2.2[t.toNat]? = some c) {x0 x4:Int} {x1 x5:Bool} {es:List E} {ns:List Int} (v:Inv u t c.2.length es ns) :
  ZcZ (false,c.2,(c.2.length:Int),0,x0,x1,u.1,u.2.1,u.2.2.1,u.2.2.2,t,l,c.2,st,es,ns,x4,x5) =
   some ((ZV u t l st c es ns).1,x0,x1,u.1,u.2.1,u.2.2.1,u.2.2.2,t,l,c.2,st,(ZV u t l st c es ns).2.1,(ZV u t l st c es ns).2.2,x4,x5) ∧
  ZaV (t,l,c.2,false,0,u.1,u.2.1,u.2.2.1,u.2.2.2,x0,x1,st,es,ns,x4,x5) =
   some (t,l,c.2,(ZV u t l st c es ns).1,u.1,u.2.1,u.2.2.1,u.2.2.2,x0,x1,st,(ZV u t l st c es ns).2.1,(ZV u t l st c es ns).2.2,x4,x5) ∧
  Inv u t c.2.length (ZV u t l st c es ns).2.1 (ZV u t l st c es ns).2.2:=by
 have cl:=(hu.ts c (mG0 hc)).n
 have h1:=ZJg (f:=fun i s d=>Wt x0 x1 x4 x5 c.2 i s.1 s.2.1 s.2.2.1 s.2.2.2.1 s.2.2.2.2.1 s.2.2.2.2.2.1 s.2.2.2.2.2.2.1 s.2.2.2.2.2.2.2.1 s.2.2.2.2.2.2.2.2.1 s.2.2.2.2.2.2.2.2.2.1 s.2.2.2.2.2.2.2.2.2.2 d)
  (fin:=fun s=>Zkf x0 x1 x4 x5 c.2 s.1 s.2.1 s.2.2.1 s.2.2.2.1 s.2.2.2.2.1 s.2.2.2.2.2.1 s.2.2.2.2.2.2.1 s.2.2.2.2.2.2.2.1 s.2.2.2.2.2.2.2.2.1 s.2.2.2.2.2.2.2.2.2.1 s.2.2.2.2.2.2.2.2.2.2)
  (mkS:=fun s:St3=>(s.1,u.1,u.2.1,u.2.2.1,u.2.2.2,t,l,c.2,st,s.2.1,s.2.2)) (g:=fun i s d=>nodeV u t l st i s d) (ok:=fun s=>Inv u t c.2.length s.2.1 s.2.2) (L:=c.2)
  (fun j s d hd hs=>⟨(Zx0 hu ht hl hn hst hc (b:=s.1) hs hd).1,(Zx0 hu ht hl hn hst hc (x0:=x0) (x1:=x1) (x4:=x4) (x5:=x5) (b:=s.1) hs hd).2.2⟩) c.2 0 (false,es,ns) rfl v
 have h2:=ZJg (f:=fun i s d=>YI t l u.1 u.2.1 u.2.2.1 u.2.2.2 x0 x1 x4 x5 c.2 i s.1 s.2.1 s.2.2.1 s.2.2.2 d)
  (fin:=fun s=>Zit t l u.1 u.2.1 u.2.2.1 u.2.2.2 x0 x1 x4 x5 c.2 s.1 s.2.1 s.2.2.1 s.2.2.2)
  (mkS:=fun s:St3=>(s.1,st,s.2.1,s.2.2)) (g:=fun i s d=>nodeV u t l st i s d) (ok:=fun s=>Inv u t c.2.length s.2.1 s.2.2) (L:=c.2)
  (fun j s d hd hs=>⟨(Zx0 hu ht hl hn hst hc (b:=s.1) hs hd).2.1,(Zx0 hu ht hl hn hst hc (x0:=x0) (x1:=x1) (x4:=x4) (x5:=x5) (b:=s.1) hs hd).2.2⟩) c.2 0 (false,es,ns) rfl v
 refine ⟨?_,?_,h1.2⟩
 ·have:=ZEX x0 x1 x4 x5 c.2 (false,u.1,u.2.1,u.2.2.1,u.2.2.2,t,l,c.2,st,es,ns) (by omega)
  refine this.trans ?_
  unfold Zkp
  exact h1.1
 ·have:=ZBG t l u.1 u.2.1 u.2.2.1 u.2.2.2 x0 x1 x4 x5 c.2 (false,st,es,ns) (by omega)
  refine this.trans ?_
  unfold ZiI
  exact h2.1
theorem ZZm {r:Int} (h0:0≤r) (h1:r≤1000):IntKind.i64.wrap (r+1)=r+1:=Zev (by omega) (by omega)
theorem ZQX (hu:unitOK u) (ht:0≤t) (hl:tabOK l) (hn:l.length≤1000) (hst:st.length<9223372036854775807) (hc:u.2.2.2[t.toNat]? = some c) {x0:Int} {x1:Bool}:∀ (n:Nat) (es:List E) (ns:List Int) (r:Int) (d:Bool) (k:Nat),0≤r→r+n=100→Inv u t c.2.length es ns→
  Zn Ww (k+n+1) (t,c.2,x0,x1,u.1,u.2.1,u.2.2.1,u.2.2.2,t,l,c.2,st,es,ns,r,d) =
   some (t,c.2,x0,x1,u.1,u.2.1,u.2.2.1,u.2.2.2,t,l,c.2,st,runV u t l st c n es ns r d) ∧
  Zn YK (k+n+1) (t,l,c.2,u.1,u.2.1,u.2.2.1,u.2.2.2,x0,x1,st,es,ns,r,d) =
   some (t,l,c.2,u.1,u.2.1,u.2.2.1,u.2.2.2,x0,x1,st,runV u t l st c n es ns r d)∧Inv u t c.2.length (runV u t l st c n es ns r d).1 (runV u t l st c n es ns r d).2.1
 | 0,es,ns,r,d,k,h0,h1,v=>by
  have e:decide (r<100)=false:=dF0 (by omega)
  refine ⟨?_,?_,v⟩
  ·simp only [Zn,Ww,Zga,e]
   cases d<;>rfl
  ·simp only [Zn,YK,ZdY,e]
   cases d<;>rfl
 | n+1,es,ns,r,true,k,h0,h1,v=>by
  refine ⟨?_,?_,v⟩
  ·simp only [Zn,Ww,Zga,Bool.not_true,cond_false];rfl
  ·simp only [Zn,YK,ZdY,Bool.not_true,cond_false];rfl
 | n+1,es,ns,r,false,k,h0,h1,v=>by
  have e:decide (r<100)=true:=dT0 (by omega)
  have w:=ZZm h0 (by omega)
  have q1:=ZOe hu ht hl hn hst hc (x0:=x0) (x1:=x1) (x4:=r+1) (x5:=false) v
  have q2:=ZOe hu ht hl hn hst hc (x0:=x0) (x1:=x1) (x4:=r) (x5:=false) v
  have ih:=ZQX hu ht hl hn hst hc (x0:=x0) (x1:=x1) n (ZV u t l st c es ns).2.1 (ZV u t l st c es ns).2.2 (r+1) (!(ZV u t l st c es ns).1) k (by omega) (by omega) q1.2.2
  refine ⟨?_,?_,ih.2.2⟩
  ·rw [show k+(n+1)+1=(k+n+1)+1 by omega,Zn]
   simp only [Ww,Zga,e,w,Bool.not_false,cond_true,q1.1,Zc]
   exact ih.1
  ·rw [show k+(n+1)+1=(k+n+1)+1 by omega,Zn]
   simp only [YK,ZdY,e,Bool.not_false,cond_true,q2.2.1,Zc,w]
   exact ih.2.1
end
end
section
open Go.Proofs
abbrev Ga:=List En×List Ac×List Al
def gatN (t:Int) (i:Nat) (s:Ga) (o:O):Ga:=(addT Zl s.1 o.2.2.2.1,s.2.1++o.2.2.2.2,s.2.2++o.2.2.1.map (fun e=>((1,t,(i:Int),e,0,0):Al)))
def gatV (u:U) (t:Int) (l:List En) (es:List E) (i:Nat) (r:List A) (s:Ga):Ga:=ZU (fun i s _=>gatN t i s (outV u t i ((es[i]?).getD Zf) l)) i r s
structure GInv (i:Nat) (s:Ga):Prop where
 k:tabOK s.1
 a:s.1.length≤i
 b:s.2.1.length≤i
 c:s.2.2.length≤2*i
theorem ZxR {α β Y:Type} {f:Nat→List β→α→Option (List β⊕Y)} {fin:List β→Option Y} {F:α→β} (h:∀ j s d,s.length≤1000→f j s d=some (.inl (s++[F d]))) :
  ∀ (l:List α) (j:Nat) (s:List β),s.length+l.length≤1000→Zq f fin j l s=fin (s++l.map F)
 | [],j,s,_=>by simp [Zq]
 | d::r,j,s,hs=>by
  rw [List.length_cons] at hs
  rw [QB (h j s d (by omega)),ZxR h r (j+1) (s++[F d]) (by rw [List.length_append];simp;omega),List.map_cons,List.append_assoc]
  rfl
section
variable {u:U} {t:Int} {l:List En} {st:List Int} {c:C}
theorem ZSH {i:Nat} {s:Ga} {e:E} {o:O} (v:GInv i s) (h:outOK u t i e o):GInv (i+1) (gatN t i s o):=by
 have ha:∀ x∈o.2.2.2.1,okA x:=fun x hx=>(h.st.2 x hx).1.a
 have h1:=ZIH Zl o.2.2.2.1 s.1
 have:=v.a
 have:=v.b
 have:=v.c
 have:=h.st.1
 have:=h.ac.1
 have:=h.al.1
 refine ⟨ZWk ZN2 v.k ha,?_,?_,?_⟩
 ·show (addT Zl s.1 o.2.2.2.1).length≤i+1
  omega
 ·simp only [gatN,List.length_append];omega
 ·simp only [gatN,List.length_append,List.length_map];omega
theorem ZQU (hu:unitOK u) (ht:0≤t) (hl:tabOK l) (hn:l.length≤1000) (hc:u.2.2.2[t.toNat]? = some c) {x0 x4:Int} {x1 x5:Bool} {es:List E} {ns:List Int} (v:Inv u t c.2.length es ns) :
  ∀ (r:List A) (i:Nat) (s:Ga) (k:Nat),c.2.drop i=r→i+r.length=c.2.length→GInv i s→
  Zn Zag (k+r.length+1) (t,l,c.2,(i:Int),u.1,u.2.1,u.2.2.1,u.2.2.2,x0,x1,st,es,ns,x4,x5,s.1,s.2.1,s.2.2) =
   some (x0,x1,st,es,ns,x4,x5,gatV u t l es i r s)∧GInv c.2.length (gatV u t l es i r s)
 | [],i,s,k,hd,hi,g=>by
  have hi:i=c.2.length:=by simpa using hi
  have e:decide ((i:Int)<(c.2.length:Int))=false:=dF0 (by omega)
  refine ⟨?_,by subst hi;exact g⟩
  simp only [Zn,Zag,ZiO,e,cond_false]
  rfl
 | d::r,i,s,k,hd,hi,g=>by
  rw [List.length_cons] at hi ⊢
  have cl:=(hu.ts c (mG0 hc)).n
  have hlt:i<c.2.length:=by omega
  have e:decide ((i:Int)<(c.2.length:Int))=true:=dT0 (by omega)
  have e0:decide (0≤(i:Int))=true:=dT0 (by omega)
  have hie:i<es.length:=by rw [v.le];exact hlt
  have ge:es[i]? = some es[i]:=List.getElem?_eq_getElem hie
  obtain ⟨o1,o2,o3,_⟩:=ZjE hu ht hl hn hc (v.ok _ (List.getElem_mem hie)) hlt
  have hV:gatV u t l es i (d::r) s=gatV u t l es (i+1) r (gatN t i s (outV u t i es[i] l)):=by
   show ZU _ _ _ _=_
   rw [ZU]
   simp only [ge,Option.getD_some]
   rfl
  have g2:=ZSH g o3
  have ih:=ZQU hu ht hl hn hc (x0:=x0) (x4:=x4) (x1:=x1) (x5:=x5) v r (i+1) _ k (by rw [← List.drop_drop,hd];rfl) (by omega) g2
  rw [hV]
  refine ⟨?_,ih.2⟩
  rw [show k+(r.length+1)+1=(k+r.length+1)+1 by omega,Zn]
  generalize outV u t i es[i] l=o at o2 o3 g2 ih
  have ga:=g.a
  have gb:=g.b
  have gc:=g.c
  have a1:=o3.st.1
  have a2:=o3.ac.1
  have a3:=o3.al.1
  have add:Zik s.1 o.2.2.2.1=some (addT Zl s.1 o.2.2.2.1):=by
   rw [ZDr _ _ (by omega),ZT0 g.k.e fun x hx=>(o3.st.2 x hx).1.a]
  have lm:decide ((s.2.1.length+o.2.2.2.2.length+1)*48≤lim)=true:=dT0 (by unfold lim;omega)
  have al:=ZBH t l c.2 i u.1 u.2.1 u.2.2.1 u.2.2.2 x0 x1 st es ns x4 x5 (addT Zl s.1 o.2.2.2.1) (s.2.1++o.2.2.2.2) o.1.1 o.1.2.1 o.1.2.2.1 o.1.2.2.2.1 o.1.2.2.2.2.1 o.1.2.2.2.2.2 o.2.1.1 o.2.1.2.1 o.2.1.2.2.1 o.2.1.2.2.2.1 o.2.1.2.2.2.2.1 o.2.1.2.2.2.2.2 o.2.2.2.1 o.2.2.2.2 o.2.2.1 s.2.2 (by omega)
  unfold ZiJ at al
  rw [ZxR (F:=fun e=>((1,t,(i:Int),e,0,0):Al)) (fun j s d hs=>?_) o.2.2.1 0 s.2.2 (by omega)] at al
  ·have w:=Zu (i:=i) (n:=c.2.length) hlt (by omega)
   have al':ZaW (t,l,c.2,(i:Int),0,u.1,u.2.1,u.2.2.1,u.2.2.2,x0,x1,st,es,ns,x4,x5,addT Zl s.1 o.2.2.2.1,s.2.1++o.2.2.2.2,s.2.2,o.1.1,o.1.2.1,o.1.2.2.1,o.1.2.2.2.1,o.1.2.2.2.2.1,o.1.2.2.2.2.2,o.2.1.1,o.2.1.2.1,o.2.1.2.2.1,o.2.1.2.2.2.1,o.2.1.2.2.2.2.1,o.2.1.2.2.2.2.2,o.2.2)=_:=al
   simp only [Zag,ZiO,e,e0,cond_true,tN0,ge,Zc,Zaz,o2,Zih,add,lm,al',Ziu,w]
   exact ih.1
  ·unfold Zdw
   have q:(s.length+1+1)*48≤lim:=by unfold lim;omega
   simp only [List.length_cons,List.length_nil,Nat.zero_add,dT0 q,cond_true]
end
end
section
open Go.Proofs
section
variable {u:U} {t:Int} {l:List En} {st:List Int} {c:C}
theorem ZVE {x0 x4:Int} {x1 x5:Bool} {es:List E} {ns:List Int} {i:Nat} {s:Ga} {e:E} {o:O} (hi:i≤60) (g:GInv i s) (o3:outOK u t i e o) :
  Zhd (t,(i:Int),(([o].length:Nat):Int),0,[o],o.1.1,o.1.2.1,o.1.2.2.1,o.1.2.2.2.1,o.1.2.2.2.2.1,o.1.2.2.2.2.2,o.2.1.1,o.2.1.2.1,o.2.1.2.2.1,o.2.1.2.2.2.1,o.2.1.2.2.2.2.1,o.2.1.2.2.2.2.2,o.2.2.1,o.2.2.2.1,o.2.2.2.2,x0,x1,u.1,u.2.1,u.2.2.1,u.2.2.2,t,l,c.2,st,es,ns,x4,x5,s.1,s.2.1,s.2.2) =
   some ([o],o.1.1,o.1.2.1,o.1.2.2.1,o.1.2.2.2.1,o.1.2.2.2.2.1,o.1.2.2.2.2.2,o.2.1.1,o.2.1.2.1,o.2.1.2.2.1,o.2.1.2.2.2.1,o.2.1.2.2.2.2.1,o.2.1.2.2.2.2.2,o.2.2.1,o.2.2.2.1,o.2.2.2.2,x0,x1,u.1,u.2.1,u.2.2.1,u.2.2.2,t,l,c.2,st,es,ns,x4,x5,gatN t i s o):=by
 have ga:=g.a
 have gb:=g.b
 have gc:=g.c
 have a1:=o3.st.1
 have a2:=o3.ac.1
 have a3:=o3.al.1
 have add:ZtR s.1 o.2.2.2.1=some (addT Zl s.1 o.2.2.2.1):=ZKJ _ _ g.k.srt (by omega)
 have lm:decide ((s.2.1.length+o.2.2.2.2.length+1)*48≤lim)=true:=dT0 (by unfold lim;omega)
 have al:=ZEY t i (([o].length:Nat):Int) 0 [o] o.1.1 o.1.2.1 o.1.2.2.1 o.1.2.2.2.1 o.1.2.2.2.2.1 o.1.2.2.2.2.2 o.2.1.1 o.2.1.2.1 o.2.1.2.2.1 o.2.1.2.2.2.1 o.2.1.2.2.2.2.1 o.2.1.2.2.2.2.2 o.2.2.1 o.2.2.2.1 o.2.2.2.2 x0 x1 u.1 u.2.1 u.2.2.1 u.2.2.2 t l c.2 st es ns x4 x5 (addT Zl s.1 o.2.2.2.1) (s.2.1++o.2.2.2.2) o.2.2.1 s.2.2 (by omega)
 unfold Zkq at al
 rw [ZxR (F:=fun e=>((1,t,(i:Int),e,0,0):Al)) (fun j s d hs=>?_) o.2.2.1 0 s.2.2 (by omega)] at al
 ·unfold Zhd
  have f:Zr=18446744073709551614+1+1:=rfl
  rw [f,Zn]
  have e1:decide ((0:Int)<(([o].length:Nat):Int))=true:=rfl
  have e2:decide ((0:Int)≤0)=true:=rfl
  have e3:([o]:List O)[Int.toNat 0]? = some o:=rfl
  have e4:IntKind.i64.wrap (0+1)=1:=rfl
  simp only [Zkw,ZqY,e1,e2,e3,e4,cond_true,Zc,Zlc,add,lm,al,Zkg]
  rfl
 ·unfold Zf1
  have q:(s.length+1+1)*48≤lim:=by unfold lim;omega
  simp only [List.length_cons,List.length_nil,Nat.zero_add,dT0 q,cond_true]
theorem ZQq (hu:unitOK u) (ht:0≤t) (hl:tabOK l) (hn:l.length≤1000) (hc:u.2.2.2[t.toNat]? = some c) {x0 x4:Int} {x1 x5:Bool} {es:List E} {ns:List Int} (v:Inv u t c.2.length es ns) :
  ∀ (r:List A) (i:Nat) (s:Ga) (k:Nat),c.2.drop i=r→i+r.length=c.2.length→GInv i s→
  Zn Zb0 (k+r.length+1) (t,(c.2.length:Int),(i:Int),x0,x1,u.1,u.2.1,u.2.2.1,u.2.2.2,t,l,c.2,st,es,ns,x4,x5,s.1,s.2.1,s.2.2) =
   some (x0,x1,u.1,u.2.1,u.2.2.1,u.2.2.2,t,l,c.2,st,es,ns,x4,x5,gatV u t l es i r s)
 | [],i,s,k,hd,hi,g=>by
  have hi:i=c.2.length:=by simpa using hi
  have e:decide ((i:Int)<(c.2.length:Int))=false:=dF0 (by omega)
  simp only [Zn,Zb0,Zkv,e,cond_false]
  rfl
 | d::r,i,s,k,hd,hi,g=>by
  rw [List.length_cons] at hi ⊢
  have cl:=(hu.ts c (mG0 hc)).n
  have hlt:i<c.2.length:=by omega
  have e:decide ((i:Int)<(c.2.length:Int))=true:=dT0 (by omega)
  have e0:decide (0≤(i:Int))=true:=dT0 (by omega)
  have hie:i<es.length:=by rw [v.le];exact hlt
  have ge:es[i]? = some es[i]:=List.getElem?_eq_getElem hie
  obtain ⟨o1,o2,o3,_⟩:=ZjE hu ht hl hn hc (v.ok _ (List.getElem_mem hie)) hlt
  have hV:gatV u t l es i (d::r) s=gatV u t l es (i+1) r (gatN t i s (outV u t i es[i] l)):=by
   show ZU _ _ _ _=_
   rw [ZU]
   simp only [ge,Option.getD_some]
   rfl
  have g2:=ZSH g o3
  have ih:=ZQq hu ht hl hn hc (x0:=x0) (x4:=x4) (x1:=x1) (x5:=x5) v r (i+1) _ k (by rw [← List.drop_drop,hd];rfl) (by omega) g2
  rw [hV]
  rw [show k+(r.length+1)+1=(k+r.length+1)+1 by omega,Zn]
  have w:=Zu (i:=i) (n:=c.2.length) hlt (by omega)
  have one:=ZVE (l:=l) (st:=st) (c:=c) (x0:=x0) (x4:=x4) (x1:=x1) (x5:=x5) (es:=es) (ns:=ns) (by omega) g o3
  simp only [Zb0,Zkv,e,e0,cond_true,tN0,ge,Zc,ZcK,o1,one,w]
  exact ih
end
end
section
open Go.Proofs
def es0 (u:U) (c:C):List E:=(List.replicate c.2.length Zf).set 0 (Zc8 u c)
def ns0 (c:C):List Int:=List.replicate c.2.length 0
def endV (u:U) (t:Int) (l:List En) (st:List Int) (c:C):List E×List Int×Int×Bool:=runV u t l st c 100 (es0 u c) (ns0 c) 0 false
def gatE (u:U) (t:Int) (l:List En) (st:List Int) (c:C):Ga:=gatV u t l (endV u t l st c).1 0 c.2 ([],[],[])
def resV (u:U) (t:Int) (l:List En) (st:List Int) (c:C):Re:=((endV u t l st c).1,(gatE u t l st c).1,(gatE u t l st c).2.1,(gatE u t l st c).2.2,(endV u t l st c).2.2.1,(endV u t l st c).2.2.2)
section
variable {u:U} {t:Int} {l:List En} {st:List Int} {c:C}
theorem ZNz (hu:unitOK u) (hc:u.2.2.2[t.toNat]? = some c):Inv u t c.2.length (es0 u c) (ns0 c):=by
 refine ⟨fun x hx=>?_,by simp [es0],by simp [ns0]⟩
 rcases List.mem_or_eq_of_mem_set hx with k | rfl
 ·exact .inl (List.mem_replicate.1 k).2
 ·exact .inr ⟨rfl,ZGv u t hu hc⟩
theorem ZVj:GInv 0 (([],[],[]):Ga):=⟨⟨(fun x k=>nomatch k),(fun i a b h=>by simp at h)⟩,by simp,by simp,by simp⟩
theorem ZYD (hu:unitOK u) (ht:0≤t) (hl:tabOK l) (hn:l.length≤1000) (hst:st.length<9223372036854775807) (hc:u.2.2.2[t.toNat]? = some c) (s1:ZoH u=some st) (s2:Zmr u=some st) :
  Zg4 u t l=some (resV u t l st c)∧ZoJ u t l=some (resV u t l st c)∧Inv u t c.2.length (endV u t l st c).1 (endV u t l st c).2.1∧GInv c.2.length (gatE u t l st c):=by
 have cl:=(hu.ts c (mG0 hc)).n
 have v0:=ZNz hu hc
 have q:=ZQX hu ht hl hn hst hc (x0:=0) (x1:=false) 100 (es0 u c) (ns0 c) 0 false 18446744073709551515 (by decide) (by decide) v0
 have vE:Inv u t c.2.length (endV u t l st c).1 (endV u t l st c).2.1:=q.2.2
 have hF:Zr=18446744073709551515+100+1:=rfl
 have hG:Zr=(Zr - c.2.length - 1)+c.2.length+1:=by unfold Zr;omega
 have ga:=ZQq hu ht hl hn hc (st:=st) (x0:=0) (x1:=false) (x4:=(endV u t l st c).2.2.1) (x5:=(endV u t l st c).2.2.2) vE c.2 0 ([],[],[]) (Zr - c.2.length - 1) rfl (by omega) ZVj
 have gb:=ZQU hu ht hl hn hc (st:=st) (x0:=0) (x1:=false) (x4:=(endV u t l st c).2.2.1) (x5:=(endV u t l st c).2.2.2) vE c.2 0 ([],[],[]) (Zr - c.2.length - 1) rfl (by omega) ZVj
 rw [← hG] at ga gb
 have e0:decide (0≤t)=true:=dT0 ht
 have m1:decide (0≤(c.2.length:Int)∧True∧c.2.length*(96+1)≤lim)=true:=dT0 ⟨by omega,trivial,by unfold lim;omega⟩
 have m2:decide (0≤(c.2.length:Int)∧True∧c.2.length*(8+1)≤lim)=true:=dT0 ⟨by omega,trivial,by unfold lim;omega⟩
 have r0:(List.replicate c.2.length ((false,[],[],[],0,0):E))[Int.toNat 0]? = some Zf:=by
  rw [List.getElem?_replicate,if_pos (show Int.toNat 0<c.2.length by simp;omega)];rfl
 have f1:=ZFI u t hu ht hc
 have f2:=ZAt u t hu ht hc
 have L1:Zhb (t,c.2,0,false,u.1,u.2.1,u.2.2.1,u.2.2.2,t,l,c.2,st,(List.replicate c.2.length ((false,[],[],[],0,0):E)).set (Int.toNat 0) (Zc8 u c),List.replicate c.2.length 0,0,false)=some (t,c.2,0,false,u.1,u.2.1,u.2.2.1,u.2.2.2,t,l,c.2,st,endV u t l st c):=by
  unfold Zhb
  rw [hF]
  exact q.1
 have L2:Zhc (t,(c.2.length:Int),0,0,false,u.1,u.2.1,u.2.2.1,u.2.2.2,t,l,c.2,st,(endV u t l st c).1,(endV u t l st c).2.1,(endV u t l st c).2.2.1,(endV u t l st c).2.2.2,[],[],[]) =
   some (0,false,u.1,u.2.1,u.2.2.1,u.2.2.2,t,l,c.2,st,(endV u t l st c).1,(endV u t l st c).2.1,(endV u t l st c).2.2.1,(endV u t l st c).2.2.2,gatE u t l st c):=by
  unfold Zhc
  exact ga
 have L3:ZeG (t,l,c.2,u.1,u.2.1,u.2.2.1,u.2.2.2,0,false,st,(List.replicate c.2.length ((false,[],[],[],0,0):E)).set (Int.toNat 0) (Zc8 u c),List.replicate c.2.length 0,0,false)=some (t,l,c.2,u.1,u.2.1,u.2.2.1,u.2.2.2,0,false,st,endV u t l st c):=by
  unfold ZeG
  rw [hF]
  exact q.2.1
 have L4:ZeH (t,l,c.2,0,u.1,u.2.1,u.2.2.1,u.2.2.2,0,false,st,(endV u t l st c).1,(endV u t l st c).2.1,(endV u t l st c).2.2.1,(endV u t l st c).2.2.2,[],[],[]) =
   some (0,false,st,(endV u t l st c).1,(endV u t l st c).2.1,(endV u t l st c).2.2.1,(endV u t l st c).2.2.2,gatE u t l st c):=by
  unfold ZeH
  exact gb.1
 refine ⟨?_,?_,vE,gb.2⟩
 ·unfold Zg4
  simp only [e0,hc,m1,m2,cond_true,Zc,Zow,s1,Zig,f1,tN0,r0,L1,L2]
  rfl
 ·unfold ZoJ
  simp only [e0,hc,m1,m2,cond_true,Zc,ZlT,s2,Zep,f2,tN0,r0,L3,L4]
  rfl
end
end
theorem ZVq (u:U) (hu:unitOK u):(allN u).length≤3000:=by
 have h1:=hu.g
 have h2:=hu.a
 have h3:=hu.t
 have a:=Zk1 (g:=numD) (k:=2) (fun d=>Nat.le_refl _) u.2.1
 have la:∀ a:A,(numA a).length≤3:=fun a=>by unfold numA;cases a.1==1<;>simp
 have b:∀ (r:List C),(∀ c∈r,c.2.length≤60)→(r.flatMap numC).length≤180*r.length:=by
  intro r
  induction r with
  | nil=>simp
  | cons c r ih=>
   intro h
   have h0:=h c (by simp)
   have:=ih fun c hc=>h c (by simp [hc])
   have:=Zk1 la c.2
   rw [List.flatMap_cons,List.length_append,List.length_cons]
   unfold numC at *
   omega
 have b:=b u.2.2.2 fun c hc=>(hu.ts c hc).n.2
 unfold allN
 simp only [List.length_append]
 omega
theorem ZTx (u:U) (hu:unitOK u):(Zv u).length≤4000:=by
 rw [ZzH]
 have:=ZGE (allN u) [-1,0,1]
 have:=ZVq u hu
 simp only [List.length_cons,List.length_nil] at *
 omega
theorem ZrE {u:U} {t:Int} {l:List En} {c:C} (hu:unitOK u) (ht:0≤t) (hl:tabOK l) (hn:l.length≤1000) (hc:u.2.2.2[t.toNat]? = some c) :
  Zg4 u t l=some (resV u t l (Zv u) c)∧ZoJ u t l=some (resV u t l (Zv u) c)∧Inv u t c.2.length (endV u t l (Zv u) c).1 (endV u t l (Zv u) c).2.1∧GInv c.2.length (gatE u t l (Zv u) c):=
 ZYD hu ht hl hn (by have:=ZTx u hu;omega) hc (ZPp u hu) (ZNY u hu)
def u14:U:=([],[],0,[(0,[(12,0,0,0,0,0,0,1,0),(14,0,0,0,0,0,0,1,0)])])
theorem Z0X:unitOK u14:=by
 obtain ⟨b,h1,h2⟩:=Zp9 u14 0 [] ⟨by decide,by decide,by decide,fun c hc=>by
  rw [List.mem_singleton.1 hc];decide⟩ (by decide)
 have h3:ZkR u14 0 []=some true:=by kernel_rfl
 rw [h3] at h1
 exact (h2 (Option.some.inj h1).symm).hu
theorem ZUV:tabOK []:=⟨(fun x k=>nomatch k),(fun i a b h=>by simp at h)⟩
theorem ZJn:Zh6=some true:=by
 have h:=(ZrE (u:=u14) (t:=0) (l:=[]) (c:=(0,[(12,0,0,0,0,0,0,1,0),(14,0,0,0,0,0,0,1,0)])) Z0X (by decide) ZUV (by decide) rfl).1
 unfold Zh6
 show Za (Zg4 u14 0 []) none _=_
 rw [h]
 kernel_rfl
def goodE (e:E):Prop:=Zxh e∧okB e.2.2.2.2.1∧okB e.2.2.2.2.2
structure moreO (x y:O):Prop where
 nx:leO x.1 y.1
 el:leO x.2.1 y.2.1
 al:∀ z∈x.2.2.1,z∈y.2.2.1
 st:x.2.2.2.1.length≤y.2.2.2.1.length
 ac:x.2.2.2.2.length≤y.2.2.2.2.length
 g1:goodE x.1
 g2:goodE x.2.1
 g3:goodE y.1
 g4:goodE y.2.1
 la:x.2.2.1.length≤100∧y.2.2.1.length≤100
 aln:x.2.2.1.length≤y.2.2.1.length
section
open Go.Proofs
theorem ZDj {a b c:List I} (h:leR a b) (k:leR b c):leR a c:=by
 refine ⟨h.1.trans k.1,fun i x z hx hz=>?_⟩
 have hi:i<a.length:=(List.getElem?_eq_some_iff.1 hx).1
 have hy:b[i]? = some (b[i]'(by rw [← h.1];exact hi)):=List.getElem?_eq_getElem _
 exact J1 (h.2 i x _ hx hy) (k.2 i _ z hy hz)
theorem ZIv {a b c:Int} (h:subB a b) (k:subB b c):subB a c:=fun i q=>k i (h i q)
theorem ZK5 (a:Int):subB a a:=fun i q=>q
theorem ZGI {x:E} (h:x.1=true):leE x x:=⟨h,ZGJ _,ZGJ _,ZGJ _,ZK5 _,ZK5 _⟩
theorem ZKF {x y z:E} (h:leE x y) (k:leE y z):leE x z:=⟨k.on,ZDj h.v k.v,ZDj h.g k.g,ZDj h.a k.a,ZIv k.must h.must,ZIv h.may k.may⟩
theorem ZyN (x:E):leO x x:=fun h=>ZGI h
theorem Zll {x y z:E} (h:leO x y) (k:leO y z):leO x z:=fun q=>ZKF (h q) (k (h q).on)
theorem ZnQ {x y:Int} (hx:okB x) (hy:okB y):andI x y=((x.toNat &&& y.toNat:Nat):Int):=by
 unfold okB at *
 have h:=ZxQ (a:=x.toNat) (b:=y.toNat) (by omega) (by omega)
 rw [show ((x.toNat:Nat):Int)=x by omega,show ((y.toNat:Nat):Int)=y by omega] at h
 exact h
theorem ZEl {x y:Int} (hx:okB x) (hy:okB y):orI x y=((x.toNat ||| y.toNat:Nat):Int):=by
 unfold okB at *
 have h:=ZN4 (a:=x.toNat) (b:=y.toNat) (by omega) (by omega)
 rw [show ((x.toNat:Nat):Int)=x by omega,show ((y.toNat:Nat):Int)=y by omega] at h
 exact h
theorem ZZH {x y:Int} (hx:okB x) (hy:okB y):subB (andI x y) x:=fun i q=>by
 rw [ZnQ hx hy,tN0,Nat.testBit_and,Bool.and_eq_true] at q
 exact q.1
theorem ZVa {x y:Int} (hx:okB x) (hy:okB y):subB (andI x y) y:=fun i q=>by
 rw [ZnQ hx hy,tN0,Nat.testBit_and,Bool.and_eq_true] at q
 exact q.2
theorem Z0Y {x y:Int} (hx:okB x) (hy:okB y):subB x (orI x y):=fun i q=>by
 rw [ZEl hx hy,tN0,Nat.testBit_or,q,Bool.true_or]
theorem Z0Z {x y:Int} (hx:okB x) (hy:okB y):subB y (orI x y):=fun i q=>by
 rw [ZEl hx hy,tN0,Nat.testBit_or,q,Bool.or_true]
theorem ZOZ {F:I→I→I} {a b:List I} {i:Nat} {z:I} (h:(zipI F a b)[i]? = some z):∃ x,a[i]? = some x∧z=F x (rowAt b i):=by
 unfold zipI at h
 rw [List.getElem?_mapIdx] at h
 cases e:a[i]? with
 | none=>rw [e] at h;cases h
 | some x=>rw [e] at h;exact ⟨x,rfl,(Option.some.inj h).symm⟩
theorem Zw4 {b:List I} {i:Nat} {y:I} (h:b[i]? = some y):rowAt b i=y:=by unfold rowAt;rw [h];rfl
theorem ZKa {F:I→I→I} (hF:upF F) {a b:List I} (hl:a.length=b.length) (ha:∀ x∈a,isB x=true) (hb:∀ x∈b,isB x=true):leR a (zipI F a b):=by
 refine ⟨(ZrG F a b).symm,fun i x z hx hz=>?_⟩
 obtain ⟨x',h1,rfl⟩:=ZOZ hz
 rw [hx] at h1;cases h1
 have hi:i<b.length:=by rw [← hl];exact (List.getElem?_eq_some_iff.1 hx).1
 rw [Zw4 (List.getElem?_eq_getElem hi)]
 exact (hF x b[i] (ha x (mG0 hx)) (hb _ (List.getElem_mem hi))).1
theorem ZKb {F:I→I→I} (hF:upF F) {a b:List I} (hl:a.length=b.length) (ha:∀ x∈a,isB x=true) (hb:∀ x∈b,isB x=true):leR b (zipI F a b):=by
 refine ⟨by rw [ZrG,hl],fun i y z hy hz=>?_⟩
 obtain ⟨x,h1,rfl⟩:=ZOZ hz
 rw [Zw4 hy]
 exact (hF x y (ha x (mG0 h1)) (hb y (mG0 hy))).2
def upL (es es':List E):Prop:=∀ (i:Nat) (x:E),es[i]? = some x→∃ y,es'[i]? = some y∧leO x y
theorem ZAa (es:List E):upL es es:=fun i x h=>⟨x,h,ZyN x⟩
theorem Zuo {a b c:List E} (h:upL a b) (k:upL b c):upL a c:=fun i x hx=>by
 obtain ⟨y,hy,q⟩:=h i x hx
 obtain ⟨z,hz,w⟩:=k i y hy
 exact ⟨z,hz,Zll q w⟩
theorem ZJK {a b:E} (ha:a.1=true) (h:sameE a b=true):a=b:=by
 cases hb:b.1
 ·unfold sameE at h
  rw [ha,hb] at h
  have h':(true==false)=true:=h
  exact absurd h' (by decide)
 ·exact ZUO ha hb h
section
variable {u:U} {t:Int} {l:List En} {st:List Int} {c:C} {a b:E}
theorem ZJd (ha:envOK u t a) (hb:envOK u t b):a.2.1.length=b.2.1.length∧a.2.2.1.length=b.2.2.1.length∧a.2.2.2.1.length=b.2.2.2.1.length:=by
 obtain ⟨c,hc,h1⟩:=ha.c
 obtain ⟨c',hc',h2⟩:=hb.c
 rw [hc] at hc';cases hc'
 have:=ha.g
 have:=hb.g
 have:=ha.a
 have:=hb.a
 exact ⟨by omega,by omega,by omega⟩
theorem ZVT {F:I→I→I} (hF:upF F) (ha:envOK u t a) (hb:envOK u t b):leE a (mrg F a b):=by
 obtain ⟨l1,l2,l3⟩:=ZJd ha hb
 exact ⟨rfl,ZKa hF l1 (fun x k=>(envV ha x k).1) fun x k=>(envV hb x k).1,ZKa hF l2 (fun x k=>(envG ha x k).1) fun x k=>(envG hb x k).1,ZKa hF l3 (fun x k=>(envA ha x k).1) fun x k=>(envA hb x k).1,ZZH ha.must hb.must,Z0Y ha.may hb.may⟩
theorem ZVU {F:I→I→I} (hF:upF F) (ha:envOK u t a) (hb:envOK u t b):leE b (mrg F a b):=by
 obtain ⟨l1,l2,l3⟩:=ZJd ha hb
 exact ⟨rfl,ZKb hF l1 (fun x k=>(envV ha x k).1) fun x k=>(envV hb x k).1,ZKb hF l2 (fun x k=>(envG ha x k).1) fun x k=>(envG hb x k).1,ZKb hF l3 (fun x k=>(envA ha x k).1) fun x k=>(envA hb x k).1,ZVa ha.must hb.must,Z0Z ha.may hb.may⟩
theorem ZC2 {F:I→I→I} (hF:upF F) (ha1:a.1=true) (ha:envOK u t a) (hb:b.1=true→envOK u t b):leE a (eJoin F a b):=by
 unfold eJoin
 rw [ha1,cond_true]
 cases hb1:b.1
 ·exact ZGI ha1
 ·exact ZVT hF ha (hb hb1)
theorem ZC3 {F:I→I→I} (hF:upF F) (ha:a.1=true→envOK u t a) (hb1:b.1=true) (hb:envOK u t b):leE b (eJoin F a b):=by
 unfold eJoin
 rw [hb1]
 cases ha1:a.1
 ·exact ZGI hb1
 ·exact ZVU hF (ha ha1) hb
theorem ZS3 {fr to:Int} {old e:E} {n:Int} (ho:okE u t old) (he1:e.1=true) (he:envOK u t e):leE e (nxtV st fr to old e n)∧leO old (nxtV st fr to old e n):=by
 have k1:=ZbI (F:=Zl) (a:=old) he1
 have k2:=Zjj Zst ho.env (fun _=>he) k1
 have u1:=ZC3 Zz9 ho.env he1 he
 have u2:leO old (eJoin Zl old e):=fun h=>ZC2 Zz9 h (ho.env h) fun _=>he
 unfold nxtV
 split
 ·exact ⟨ZKF u1 (ZC3 (ZEx st) ho.env k1 k2),fun h=>ZC2 (ZEx st) h (ho.env h) fun _=>k2⟩
 ·exact ⟨u1,u2⟩
theorem ZHv {fr to:Int} {e:E} {es:List E} {ns:List Int} (hes:∀ x∈es,okE u t x) (he:e.1=true→envOK u t e) (h1:to.toNat<es.length) (hl:ns.length=es.length) (h:(comeV st fr to e es ns).1=false) :
  comeV st fr to e es ns=(false,es,ns)∧∃ y,es[to.toNat]? = some y∧leO e y:=by
 have g1:es[to.toNat]? = some es[to.toNat]:=List.getElem?_eq_getElem h1
 have g2:ns[to.toNat]? = some (ns[to.toNat]'(by omega)):=List.getElem?_eq_getElem _
 have ho:=hes _ (List.getElem_mem h1)
 generalize es[to.toNat]=old at g1 ho
 generalize ns[to.toNat]'(by omega)=n at g2
 unfold comeV at h ⊢
 cases he1:e.1
 ·exact ⟨by simp only [he1,g1,g2],old,g1,fun k=>by rw [he1] at k;cases k⟩
 ·simp only [he1,g1,g2] at h ⊢
  cases q:sameE (nxtV st fr to old e n) old
  ·rw [q] at h;cases h
  ·refine ⟨rfl,old,rfl,fun _=>?_⟩
   have hn:=ZS2 (st:=st) (fr:=fr) (to:=to) (n:=n) ho he1 (he he1)
   have k:=(ZS3 (st:=st) (fr:=fr) (to:=to) (n:=n) ho he1 (he he1)).1
   rw [ZJK hn.1 q] at k
   exact k
theorem ZQd {fr to:Int} {e:E} {es:List E} {ns:List Int} (hes:∀ x∈es,okE u t x) (he:e.1=true→envOK u t e):upL es (comeV st fr to e es ns).2.1:=by
 intro i x hx
 have keep:∃ y,es[i]? = some y∧leO x y:=⟨x,hx,ZyN x⟩
 unfold comeV
 split
 ·rename_i old n he1 g1 g2
  cases sameE (nxtV st fr to old e n) old
  ·simp only [cond_false]
   by_cases q:to.toNat=i
   ·subst q
    rw [g1] at hx;cases hx
    exact ⟨_,List.getElem?_set_self ((List.getElem?_eq_some_iff.1 g1).1),(ZS3 (hes _ (mG0 g1)) he1 (he he1)).2⟩
   ·exact ⟨x,by rw [List.getElem?_set_ne q];exact hx,ZyN x⟩
  ·exact keep
 ·exact keep
def Hi (u:U) (t:Int) (l:List En) (es:List E) (i:Nat) (d:A):Prop:=
 ∃ x y,es[d.2.2.2.2.2.2.2.1.toNat]? = some x∧es[d.2.2.2.2.2.2.2.2.toNat]? = some y∧leO (outV u t i ((es[i]?).getD Zf) l).1 x∧leO (outV u t i ((es[i]?).getD Zf) l).2.1 y
theorem ZN0 (hu:unitOK u) (ht:0≤t) (hl:tabOK l) (hn:l.length≤1000) (hc:u.2.2.2[t.toNat]? = some c) {s:St3} (v:Inv u t c.2.length s.2.1 s.2.2) {i:Nat} {d:A} (hd:c.2[i]? = some d) :
  Inv u t c.2.length (nodeV u t l st i s d).2.1 (nodeV u t l st i s d).2.2∧upL s.2.1 (nodeV u t l st i s d).2.1 ∧
  ((nodeV u t l st i s d).1=false→nodeV u t l st i s d=s∧s.1=false∧Hi u t l s.2.1 i d):=by
 obtain ⟨b,es,ns⟩:=s
 simp only at v
 have hi:=(List.getElem?_eq_some_iff.1 hd).1
 have ha:=(hu.ts c (mG0 hc)).a d (mG0 hd)
 have hie:i<es.length:=by rw [v.le];exact hi
 have ge:es[i]? = some es[i]:=List.getElem?_eq_getElem hie
 obtain ⟨_,_,o3,_⟩:=ZjE hu ht hl hn hc (v.ok _ (List.getElem_mem hie)) hi
 have hx:=ha.nx
 have hy:=ha.el
 have ve:=v.le
 have vn:=v.ln
 have hN:nodeV u t l st i (b,es,ns) d=(b||(comeV st i d.2.2.2.2.2.2.2.1 (outV u t i es[i] l).1 es ns).1||(comeV st i d.2.2.2.2.2.2.2.2 (outV u t i es[i] l).2.1 (comeV st i d.2.2.2.2.2.2.2.1 (outV u t i es[i] l).1 es ns).2.1 (comeV st i d.2.2.2.2.2.2.2.1 (outV u t i es[i] l).1 es ns).2.2).1,
   (comeV st i d.2.2.2.2.2.2.2.2 (outV u t i es[i] l).2.1 (comeV st i d.2.2.2.2.2.2.2.1 (outV u t i es[i] l).1 es ns).2.1 (comeV st i d.2.2.2.2.2.2.2.1 (outV u t i es[i] l).1 es ns).2.2).2):=by
  unfold nodeV
  simp only [ge,Option.getD_some]
 rw [hN]
 have hA:Hi u t l es i d↔∃ x y,es[d.2.2.2.2.2.2.2.1.toNat]? = some x∧es[d.2.2.2.2.2.2.2.2.toNat]? = some y∧leO (outV u t i es[i] l).1 x∧leO (outV u t i es[i] l).2.1 y:=by
  unfold Hi
  simp only [ge,Option.getD_some]
 simp only [hA]
 clear hN hA
 generalize outV u t i es[i] l=o at o3
 have c1:=ZEd (st:=st) (fr:=(i:Int)) (to:=d.2.2.2.2.2.2.2.1) (e:=o.1) (ns:=ns) v.ok o3.nx
 have u1:=ZQd (st:=st) (fr:=(i:Int)) (to:=d.2.2.2.2.2.2.2.1) (e:=o.1) (ns:=ns) v.ok o3.nx
 have s1:=ZHv (st:=st) (fr:=(i:Int)) (to:=d.2.2.2.2.2.2.2.1) (e:=o.1) (ns:=ns) v.ok o3.nx (by omega) (by omega)
 generalize comeV st i d.2.2.2.2.2.2.2.1 o.1 es ns=r at c1 u1 s1
 have c2:=ZEd (st:=st) (fr:=(i:Int)) (to:=d.2.2.2.2.2.2.2.2) (e:=o.2.1) (ns:=r.2.2) c1.1 o3.el
 have u2:=ZQd (st:=st) (fr:=(i:Int)) (to:=d.2.2.2.2.2.2.2.2) (e:=o.2.1) (ns:=r.2.2) c1.1 o3.el
 have s2:=ZHv (st:=st) (fr:=(i:Int)) (to:=d.2.2.2.2.2.2.2.2) (e:=o.2.1) (ns:=r.2.2) c1.1 o3.el (by omega) (by omega)
 generalize comeV st i d.2.2.2.2.2.2.2.2 o.2.1 r.2.1 r.2.2=q at c2 u2 s2
 refine ⟨⟨c2.1,c2.2.1.trans (c1.2.1.trans v.le),c2.2.2.trans (c1.2.2.trans v.ln)⟩,Zuo u1 u2,fun h=>?_⟩
 simp only [Bool.or_eq_false_iff] at h
 obtain ⟨⟨rfl,h1⟩,h2⟩:=h
 obtain ⟨rfl,x,gx,lx⟩:=s1 h1
 obtain ⟨rfl,y,gy,ly⟩:=s2 h2
 exact ⟨rfl,rfl,x,y,gx,gy,lx,ly⟩
theorem ZDD (hu:unitOK u) (ht:0≤t) (hl:tabOK l) (hn:l.length≤1000) (hc:u.2.2.2[t.toNat]? = some c):∀ (r:List A) (i:Nat) (s:St3),c.2.drop i=r→Inv u t c.2.length s.2.1 s.2.2→
  Inv u t c.2.length (ZU (fun i s d=>nodeV u t l st i s d) i r s).2.1 (ZU (fun i s d=>nodeV u t l st i s d) i r s).2.2∧upL s.2.1 (ZU (fun i s d=>nodeV u t l st i s d) i r s).2.1 ∧
  ((ZU (fun i s d=>nodeV u t l st i s d) i r s).1=false→ZU (fun i s d=>nodeV u t l st i s d) i r s=s∧s.1=false∧∀ (j:Nat) (d:A),r[j]? = some d→Hi u t l s.2.1 (i+j) d)
 | [],i,s,_,v=>⟨v,ZAa _,fun h=>⟨rfl,h,fun j d k=>by simp at k⟩⟩
 | d::r,i,s,hd,v=>by
  have e:c.2[i]? = some d:=by
   have:=congrArg (fun q=>q[0]?) hd
   simpa using this
  obtain ⟨n1,n2,n3⟩:=ZN0 (st:=st) hu ht hl hn hc v e
  obtain ⟨h1,h2,h3⟩:=ZDD hu ht hl hn hc r (i+1) (nodeV u t l st i s d) (by rw [← List.drop_drop,hd];rfl) n1
  rw [ZU]
  refine ⟨h1,Zuo n2 h2,fun h=>?_⟩
  obtain ⟨k1,k2,k3⟩:=h3 h
  obtain ⟨q1,q2,q3⟩:=n3 k2
  rw [q1] at k1 k3
  refine ⟨by rw [q1];exact k1,q2,fun j d' hj=>?_⟩
  cases j with
  | zero=>rw [List.getElem?_cons_zero] at hj;cases hj;exact q3
  | succ j=>
   rw [List.getElem?_cons_succ] at hj
   have:=k3 j d' hj
   rw [show i+(j+1)=i+1+j by omega]
   exact this
end
end
section
open Go.Proofs
structure AcInv (es:List E) (t i:Int) (L:List Ac):Prop where
 ent:∀ a∈L,a.1=t∧0≤a.2.1∧a.2.1<i∧∃ e,es[a.2.1.toNat]? = some e∧e.1=true∧a.2.2.2.2.2=e.2.2.2.2.1
 up:L.Pairwise fun a b=>a.2.1≤b.2.1
structure AlInv (es:List E) (t i:Int) (L:List Al):Prop where
 ent:∀ a∈L,a.1=1∧a.2.1=t∧0≤a.2.2.1∧a.2.2.1<i∧(∃ e,es[a.2.2.1.toNat]? = some e∧e.1=true)∧a.2.2.2.1≠0
 up:L.Pairwise fun a b=>a.2.2.1≤b.2.2.1
section
variable {u:U} {t:Int} {l:List En} {st:List Int} {c:C}
end
end
section
open Go.Proofs
def rdV (L:List I) (i:Int):I:=(L[i.toNat]?).getD nn
def notI (op:Int):Int:=(Zo4 op).getD 0
def oV (u:U) (t n:Int) (e:E) (l:List En) (a:A):O:=
 match a with
 | (k,T,X,Y,G,N,op,nx,el)=>
  bif !e.1 then (Zf,Zf,[],[],[]) else
  bif k==1 then (setE e T (N,N),Zf,[],[],[]) else
  bif k==2 then (setE e T (rdV e.2.1 X),Zf,[],[],[]) else
  bif k==3 then (setE e T (-2147483648,2147483647),Zf,[],[],[]) else
  bif k==4 then (bif Zd (doI op (rdV e.2.1 X) (rdV e.2.1 Y)).1 then Zf else setE e T (doI op (rdV e.2.1 X) (rdV e.2.1 Y)).1,Zf,(bif (doI op (rdV e.2.1 X) (rdV e.2.1 Y)).2.1 then [7] else [])++(bif (doI op (rdV e.2.1 X) (rdV e.2.1 Y)).2.2 then [8] else []),[],[]) else
  bif k==5 then (setE e T (readV (rdV e.2.2.1 G) l t false G e.2.2.2.2.1),Zf,[],[],[(t,n,false,G,false,e.2.2.2.2.1)]) else
  bif k==6 then ((e.1,e.2.1,e.2.2.1.set G.toNat (rdV e.2.1 X),e.2.2.2),Zf,[],[(t,false,G,e.2.2.2.2.1,rdV e.2.1 X)],[(t,n,false,G,true,e.2.2.2.2.1)]) else
  bif k==7 then (bif Zd (mSpan (rdV e.2.1 X) (0,(u.2.1[G.toNat]?).getD 0 - 1)) then Zf else setE (setE e X (mSpan (rdV e.2.1 X) (0,(u.2.1[G.toNat]?).getD 0 - 1))) T (readV (rdV e.2.2.2.1 G) l t true G e.2.2.2.2.1),Zf,(bif leqB (rdV e.2.1 X) (0,(u.2.1[G.toNat]?).getD 0 - 1) then [] else [9]),[],[(t,n,true,G,false,e.2.2.2.2.1)]) else
  bif k==8 then (bif Zd (mSpan (rdV e.2.1 X) (0,(u.2.1[G.toNat]?).getD 0 - 1)) then Zf else (e.1,e.2.1.set X.toNat (mSpan (rdV e.2.1 X) (0,(u.2.1[G.toNat]?).getD 0 - 1)),e.2.2.1,e.2.2.2.1.set G.toNat (rJoin (rdV e.2.2.2.1 G) (rdV (e.2.1.set X.toNat (mSpan (rdV e.2.1 X) (0,(u.2.1[G.toNat]?).getD 0 - 1))) Y)),e.2.2.2.2),Zf,(bif leqB (rdV e.2.1 X) (0,(u.2.1[G.toNat]?).getD 0 - 1) then [] else [9]),[(t,true,G,e.2.2.2.2.1,rdV e.2.1 Y)],[(t,n,true,G,true,e.2.2.2.2.1)]) else
  bif k==9 then (bif tb e.2.2.2.2.1 G then Zf else (e.1,e.2.1,gmap l t false e.2.2.2.2.1 G e.2.2.1,gmap l t true e.2.2.2.2.1 G e.2.2.2.1,wiI e.2.2.2.2.1 G,wiI e.2.2.2.2.2 G),Zf,(bif tb e.2.2.2.2.2 G then [11] else []),[],[]) else
  bif k==10 then (bif tb e.2.2.2.2.2 G then (e.1,e.2.1,e.2.2.1,e.2.2.2.1,woI e.2.2.2.2.1 G,woI e.2.2.2.2.2 G) else Zf,Zf,(bif tb e.2.2.2.2.1 G then [] else [12]),[],[]) else
  bif k==11 then (sideV e X Y op (rdV e.2.1 X) (rdV e.2.1 Y),sideV e X Y (notI op) (rdV e.2.1 X) (rdV e.2.1 Y),[],[],[]) else
  bif k==12 then (e,Zf,[],[],[]) else
  bif k==13 then (Zf,Zf,[10],[],[]) else (Zf,Zf,[],[],[])
theorem Zaw {L:List I} {i:Int} {x:I} (h:L[i.toNat]? = some x):rdV L i=x:=by unfold rdV;rw [h];rfl
variable {u:U} {t n:Int} {e:E} {l:List En} {c:C}
theorem ZW7 (hu:unitOK u) (ht:0≤t) (hl:tabOK l) (hn:l.length≤1000) (he:e.1=true→envOK u t e) (h1:0≤n) (hc:u.2.2.2[t.toNat]? = some c) {a:A} (ga:c.2[n.toNat]? = some a) :
  Wy u t n e l=some (oV u t n e l a):=by
 have h2:n<(c.2.length:Int):=by have:=(List.getElem?_eq_some_iff.1 ga).1;omega
 cases he1:e.1
 ·obtain ⟨on,V,G,A,must,may⟩:=e
  cases he1
  have e0:decide (0≤t)=true:=dT0 ht
  have e1:decide (0≤n)=true:=dT0 h1
  unfold Wy
  rw [e0,hc,e1,cond_true,Zc,cond_true,ga,Zc]
  rfl
 have hE:=he he1
 have ha:=(hu.ts c (mG0 hc)).a a (mG0 ga)
 rw [ZMe u t n e l c a ht hc h1 ga he1]
 have hle:=hl.e
 obtain ⟨cc,hc',hv⟩:=hE.c
 obtain rfl:cc=c:=by rw [hc] at hc';exact (Option.some.inj hc').symm
 have vx:∀ {X:Int},0≤X∧X<cc.1→∃ x,e.2.1[X.toNat]? = some x:=fun {X} h=>ZJ e.2.1 X (by omega)
 have gx:∀ {G:Int},0≤G∧G<(u.1.length:Int)→∃ x,e.2.2.1[G.toNat]? = some x:=fun {G} h=>ZJ e.2.2.1 G (by rw [hE.g];exact h)
 have ax:∀ {G:Int},0≤G∧G<(u.2.1.length:Int)→∃ x m,e.2.2.2.1[G.toNat]? = some x∧u.2.1[G.toNat]? = some m:=fun {G} h=>by
  obtain ⟨x,gx⟩:=ZJ e.2.2.2.1 G (by rw [hE.a];exact h)
  obtain ⟨m,gm⟩:=ZJ u.2.1 G h
  exact ⟨x,m,gx,gm⟩
 obtain ⟨k,T,X,Y,G,N,op,nx,el⟩:=a
 have k1:1≤k:=ha.k1
 have k2:k≤14:=ha.k2
 have hk:k=1∨k=2∨k=3∨k=4∨k=5∨k=6∨k=7∨k=8∨k=9∨k=10∨k=11∨k=12∨k=13∨k=14:=by omega
 rcases hk with rfl | rfl | rfl | rfl | rfl | rfl | rfl | rfl | rfl | rfl | rfl | rfl | rfl | rfl
 ·rw [ZMj u t n e l cc T X Y G N op nx el hu hle hn hE hc ha]
  simp only [oV,he1,Bool.not_true,cond_false];rfl
 ·obtain ⟨x,g1⟩:=vx (Zy.1 ha.h2)
  rw [ZMk u t n e l cc T X Y G N op nx el g1 hu hle hn hE hc ha]
  simp only [oV,he1,Bool.not_true,cond_false,Zaw g1];rfl
 ·rw [ZMl u t n e l cc T X Y G N op nx el hu hle hn hE hc ha]
  simp only [oV,he1,Bool.not_true,cond_false];rfl
 ·obtain ⟨x,g1⟩:=vx (Zy.1 ha.h2)
  obtain ⟨y,g2⟩:=vx (Zy.1 ha.h3)
  rw [ZMm u t n e l cc T X Y G N op nx el g1 g2 hu hle hn hE hc ha]
  simp only [oV,he1,Bool.not_true,cond_false,Zaw g1,Zaw g2];rfl
 ·obtain ⟨x,g1⟩:=gx (Zy.1 ha.h4)
  rw [ZMn u t n e l cc T X Y G N op nx el g1 hu hle hn hE hc ha]
  simp only [oV,he1,Bool.not_true,cond_false,Zaw g1];rfl
 ·obtain ⟨x,g1⟩:=vx (Zy.1 ha.h2)
  rw [ZMo u t n e l cc T X Y G N op nx el g1 hu hle hn hE hc ha]
  simp only [oV,he1,Bool.not_true,cond_false,Zaw g1];rfl
 ·obtain ⟨x,g1⟩:=vx (Zy.1 ha.h2)
  obtain ⟨d,m,g2,gm⟩:=ax (Zy.1 ha.h4)
  rw [ZMp u t n e l cc T X Y G N op nx el g1 gm g2 hu hle hn hE hc ha]
  simp only [oV,he1,Bool.not_true,cond_false,Zaw g1,Zaw g2,gm,Option.getD_some];rfl
 ·obtain ⟨x,g1⟩:=vx (Zy.1 ha.h2)
  obtain ⟨y,g3⟩:=vx (Zy.1 ha.h3)
  obtain ⟨d,m,g2,gm⟩:=ax (Zy.1 ha.h4)
  have hY:0≤Y∧Y<cc.1:=Zy.1 ha.h3
  obtain ⟨y',gy'⟩:=ZJ (e.2.1.set X.toNat (mSpan x (0,m - 1))) Y (by rw [List.length_set];omega)
  rw [ZMq u t n e l cc T X Y G N op nx el g1 g3 gm g2 gy' hu hle hn hE hc ha]
  simp only [oV,he1,Bool.not_true,cond_false,Zaw g1,Zaw g2,Zaw g3,gm,Option.getD_some,Zaw gy'];rfl
 ·rw [ZMr u t n e l cc T X Y G N op nx el hu hle hn hE hc ha]
  simp only [oV,he1,Bool.not_true,cond_false];rfl
 ·rw [ZIx u t n e l cc T X Y G N op nx el hu hle hn hE hc ha]
  simp only [oV,he1,Bool.not_true,cond_false];rfl
 ·obtain ⟨x,g1⟩:=vx (Zy.1 ha.h2)
  obtain ⟨y,g2⟩:=vx (Zy.1 ha.h3)
  obtain ⟨w,n1⟩:=ZH2 op
  have hw:notI op=w:=by unfold notI;rw [n1];rfl
  rw [ZIy u t n e l cc T X Y G N op nx el g1 g2 n1 hu hle hn hE hc ha]
  simp only [oV,he1,Bool.not_true,cond_false,Zaw g1,Zaw g2,hw];rfl
 ·rw [ZIz u t n e l cc T X Y G N op nx el hu hle hn hE hc ha]
  simp only [oV,he1,Bool.not_true,cond_false];rfl
 ·rw [ZIA u t n e l cc T X Y G N op nx el hu hle hn hE hc ha]
  simp only [oV,he1,Bool.not_true,cond_false];rfl
 ·rw [ZIB u t n e l cc T X Y G N op nx el hu hle hn hE hc ha]
  simp only [oV,he1,Bool.not_true,cond_false];rfl
end
section
open Go.Proofs
structure mo (x y:O):Prop where
 nx:leO x.1 y.1
 el:leO x.2.1 y.2.1
 al:x.2.2.1.length≤y.2.2.1.length
 ac:x.2.2.2.2.length≤y.2.2.2.2.length
section
variable {u:U} {t:Int} {l l':List En} {st:List Int} {c:C}
theorem ZEo (hu:unitOK u) (ht:0≤t) (hl:tabOK l) (hn:l.length≤1000) (hc:u.2.2.2[t.toNat]? = some c) {e:E} (he:e.1=true→envOK u t e) {i:Nat} {d:A} (hd:c.2[i]? = some d):outV u t i e l=oV u t i e l d:=by
 unfold outV
 rw [ZW7 hu ht hl hn he (n:=(i:Int)) (by omega) hc (by rw [tN0];exact hd)]
 rfl
end
end
section
open Go.Proofs
section
variable {u:U} {t:Int} {l l':List En} {st:List Int} {c:C} {a b z:E}
theorem ZpJ (a:E):sameE a a=true:=by
 unfold sameE
 cases a.1<;>simp
end
end
section
open Go.Proofs
def actQ (u:U) (c:C) (a:A):Bool:=
 decide (1≤a.1)&&(decide (a.1≤14)&&((a.1==1||a.2.2.2.2.2.1==0)&&(inB a.2.2.2.2.2.2.2.1 (c.2.length:Int)&&(inB a.2.2.2.2.2.2.2.2 (c.2.length:Int)&&((a.1==11||a.2.2.2.2.2.2.2.2==0)&&((a.1 !=4||(decide (1≤a.2.2.2.2.2.2.1)&&decide (a.2.2.2.2.2.2.1≤5)))&&((a.1 !=11||(decide (1≤a.2.2.2.2.2.2.1)&&decide (a.2.2.2.2.2.2.1≤6))) &&
  ((a.1==4||(a.1==11||a.2.2.2.2.2.2.1==0))&&(hasV a.1 1 a.2.1 c.1&&(hasV a.1 2 a.2.2.1 c.1&&(hasV a.1 3 a.2.2.2.1 c.1&&hasV a.1 4 a.2.2.2.2.1 (gBd u a.1))))))))))))
theorem ZVp {u:U} {c:C} {a:A} (h:actQ u c a=true) (hf:fitB a.2.2.2.2.2.1=true):actOK u c a:=by
 unfold actQ at h
 simp only [Bool.and_eq_true,Bool.or_eq_true,decide_eq_true_eq,beq_iff_eq,bne_iff_ne,ne_eq,inB] at h
 obtain ⟨h1,h2,h3,h4,h5,h6,h7,h8,h9,h10,h11,h12,h13⟩:=h
 exact ⟨h1,h2,hf,fun k=>h3.resolve_left k,h4,h5,fun k=>h6.resolve_left k,fun k=>h7.resolve_left (fun q=>q k),fun k=>h8.resolve_left (fun q=>q k),fun k k'=>(h9.resolve_left k).resolve_left k',h10,h11,h12,h13⟩
def codeQ (u:U) (c:C):Bool:=decide (0≤c.1)&&(decide (c.1≤40)&&(decide (1≤c.2.length)&&(decide (c.2.length≤60)&&((c.2[c.2.length - 1]?).elim false (fun a=>a.1==14)&&c.2.all (actQ u c)))))
def unitQ (u:U):Bool:=decide (u.1.length≤6)&&(decide (u.2.1.length≤3)&&(decide (0≤u.2.2.1)&&(decide (u.2.2.1≤6)&&(decide (1≤u.2.2.2.length)&&(decide (u.2.2.2.length≤4)&&(u.2.1.all (fun n=>decide (1≤n)&&decide (n≤16))&&u.2.2.2.all (codeQ u)))))))
theorem ZU1 {u:U} (h:unitQ u=true) (hg:∀ n∈u.1,fitB n=true) (hf:∀ c∈u.2.2.2,∀ a∈c.2,fitB a.2.2.2.2.2.1=true):unitOK u:=by
 unfold unitQ at h
 simp only [Bool.and_eq_true,decide_eq_true_eq,List.all_eq_true] at h
 obtain ⟨h1,h2,h3,h4,h5,h6,h7,h8⟩:=h
 refine ⟨h1,h2,⟨h3,h4⟩,⟨h5,h6⟩,hg,h7,fun c hc=>?_⟩
 have k:=h8 c hc
 unfold codeQ at k
 simp only [Bool.and_eq_true,decide_eq_true_eq,List.all_eq_true] at k
 obtain ⟨k1,k2,k3,k4,k5,k6⟩:=k
 refine ⟨⟨k1,k2⟩,⟨k3,k4⟩,?_,fun a ha=>ZVp (k6 a ha) (hf c hc a ha)⟩
 cases q:c.2[c.2.length - 1]? with
 | none=>rw [q] at k5;cases k5
 | some a=>rw [q] at k5;exact ⟨a,rfl,by simpa using k5⟩
def gatS (u:U) (t:Int) (l:List En) (es:List E) (i:Nat) (s:Ga) (d:A):Ga:=gatN t i s (oV u t (i:Int) ((es[i]?).getD Zf) l d)
section
variable {u:U} {t:Int} {l:List En} {c:C}
theorem ZJj (hu:unitOK u) (ht:0≤t) (hl:tabOK l) (hn:l.length≤1000) (hc:u.2.2.2[t.toNat]? = some c) {es:List E} {ns:List Int} (v:Inv u t c.2.length es ns):∀ (r:List A) (i:Nat) (s:Ga),c.2.drop i=r→
  gatV u t l es i r s=ZU (gatS u t l es) i r s
 | [],i,s,hd=>rfl
 | d::r,i,s,hd=>by
  have e:c.2[i]? = some d:=by
   have:=congrArg (fun q=>q[0]?) hd
   simpa using this
  have hi:=(List.getElem?_eq_some_iff.1 e).1
  have hie:i<es.length:=by rw [v.le];exact hi
  have ge:es[i]? = some es[i]:=List.getElem?_eq_getElem hie
  have hV:gatV u t l es i (d::r) s=gatV u t l es (i+1) r (gatN t i s (outV u t i ((es[i]?).getD Zf) l)):=rfl
  rw [hV,ZU]
  unfold gatS
  rw [ge,Option.getD_some,ZEo hu ht hl hn hc (v.ok _ (List.getElem_mem hie)).env e]
  exact ZJj hu ht hl hn hc v r (i+1) _ (by rw [← List.drop_drop,hd];rfl)
end
end
section
open Go.Proofs
def nodeC (u:U) (t:Int) (l:List En) (st:List Int) (i:Nat) (s:St3) (d:A):St3:=
 let o:=oV u t i ((s.2.1[i]?).getD Zf) l d
 let r:=comeV st i d.2.2.2.2.2.2.2.1 o.1 s.2.1 s.2.2
 let q:=comeV st i d.2.2.2.2.2.2.2.2 o.2.1 r.2.1 r.2.2
 (s.1||r.1||q.1,q.2.1,q.2.2)
def Za5 (u:U) (t:Int) (l:List En) (st:List Int) (c:C) (es:List E) (ns:List Int):St3:=ZU (nodeC u t l st) 0 c.2 (false,es,ns)
def runC (u:U) (t:Int) (l:List En) (st:List Int) (c:C):Nat→List E→List Int→Int→Bool→List E×List Int×Int×Bool
 | 0,es,ns,r,d=>(es,ns,r,d)
 | n+1,es,ns,r,d=>bif d then (es,ns,r,d) else (fun z:St3=>runC u t l st c n z.2.1 z.2.2 (r+1) (!z.1)) (Za5 u t l st c es ns)
def gatC (u:U) (t:Int) (l:List En) (c:C) (es:List E):Ga:=ZU (gatS u t l es) 0 c.2 ([],[],[])
def resC (u:U) (t:Int) (l:List En) (c:C):Re:=
 (fun z:List E×List Int×Int×Bool=>(fun g:Ga=>(z.1,g.1,g.2.1,g.2.2,z.2.2.1,z.2.2.2)) (gatC u t l c z.1)) (runC u t l (Zv u) c 100 (es0 u c) (ns0 c) 0 false)
section
variable {u:U} {t:Int} {l:List En} {c:C} {st:List Int}
theorem ZYr (hu:unitOK u) (ht:0≤t) (hl:tabOK l) (hn:l.length≤1000) (hc:u.2.2.2[t.toNat]? = some c) {s:St3} (v:Inv u t c.2.length s.2.1 s.2.2) {i:Nat} {d:A} (hd:c.2[i]? = some d):nodeV u t l st i s d=nodeC u t l st i s d:=by
 have hi:=(List.getElem?_eq_some_iff.1 hd).1
 have hie:i<s.2.1.length:=by rw [v.le];exact hi
 have ge:s.2.1[i]? = some s.2.1[i]:=List.getElem?_eq_getElem hie
 unfold nodeV nodeC
 simp only [ge,Option.getD_some,ZEo hu ht hl hn hc (v.ok _ (List.getElem_mem hie)).env hd]
theorem ZQV (hu:unitOK u) (ht:0≤t) (hl:tabOK l) (hn:l.length≤1000) (hc:u.2.2.2[t.toNat]? = some c):∀ (r:List A) (i:Nat) (s:St3),c.2.drop i=r→Inv u t c.2.length s.2.1 s.2.2→
  ZU (fun i s d=>nodeV u t l st i s d) i r s=ZU (nodeC u t l st) i r s
 | [],i,s,_,v=>rfl
 | d::r,i,s,hd,v=>by
  have e:c.2[i]? = some d:=by
   have:=congrArg (fun q=>q[0]?) hd
   simpa using this
  obtain ⟨n1,_,_⟩:=ZN0 (st:=st) hu ht hl hn hc v e
  have k:=ZYr (st:=st) hu ht hl hn hc v e
  rw [ZU,ZU,k]
  rw [k] at n1
  exact ZQV hu ht hl hn hc r (i+1) _ (by rw [← List.drop_drop,hd];rfl) n1
theorem ZVl (hu:unitOK u) (ht:0≤t) (hl:tabOK l) (hn:l.length≤1000) (hc:u.2.2.2[t.toNat]? = some c):∀ (n:Nat) (es:List E) (ns:List Int) (r:Int) (d:Bool),Inv u t c.2.length es ns→runV u t l st c n es ns r d=runC u t l st c n es ns r d
 | 0,es,ns,r,d,v=>rfl
 | n+1,es,ns,r,true,v=>rfl
 | n+1,es,ns,r,false,v=>by
  have k:ZV u t l st c es ns=Za5 u t l st c es ns:=ZQV hu ht hl hn hc c.2 0 (false,es,ns) rfl v
  obtain ⟨h1,_,_⟩:=ZDD (st:=st) hu ht hl hn hc c.2 0 (false,es,ns) rfl v
  have h1:Inv u t c.2.length (ZV u t l st c es ns).2.1 (ZV u t l st c es ns).2.2:=h1
  rw [k] at h1
  show runV u t l st c n (ZV u t l st c es ns).2.1 (ZV u t l st c es ns).2.2 (r+1) (!(ZV u t l st c es ns).1)=runC u t l st c n (Za5 u t l st c es ns).2.1 (Za5 u t l st c es ns).2.2 (r+1) (!(Za5 u t l st c es ns).1)
  rw [k]
  exact ZVl hu ht hl hn hc n _ _ (r+1) _ h1
theorem Z0l (hu:unitOK u) (ht:0≤t) (hl:tabOK l) (hn:l.length≤1000) (hc:u.2.2.2[t.toNat]? = some c):resV u t l (Zv u) c=resC u t l c:=by
 obtain ⟨_,_,v,g⟩:=ZrE hu ht hl hn hc
 have e:endV u t l (Zv u) c=runC u t l (Zv u) c 100 (es0 u c) (ns0 c) 0 false:=ZVl hu ht hl hn hc 100 (es0 u c) (ns0 c) 0 false (ZNz hu hc)
 have e2:gatE u t l (Zv u) c=gatC u t l c (endV u t l (Zv u) c).1:=ZJj hu ht hl hn hc v c.2 0 ([],[],[]) rfl
 unfold resV
 rw [e2,e]
 rfl
end
end
theorem Qm {a b:Int} (h:a≤b):Zd (a,b)=false:=decide_eq_false (by show ¬ (a>b);omega)
theorem jnI {a b c d e f:Int} (h1:a≤b) (h2:c≤d) (he:e≤a∧e≤c∧(e=a∨e=c)) (hf:b≤f∧d≤f∧(f=b∨f=d)):Zl (a,b) (c,d)=(e,f):=by
 unfold Zl
 rw [Qm h1,Qm h2]
 show (mn a c,mx b d)=(e,f)
 unfold mn mx
 rw [Prod.mk.injEq]
 constructor<;>split<;>omega
theorem ZUv {a b:Int} (h:a≤b) (h1 : -2147483648≤a) (h2:b≤2147483647):iMeet (a,b) aa=(a,b):=by
 have e1:mx a (-2147483648)=a:=by unfold mx;split<;>omega
 have e2:mn b 2147483647=b:=by unfold mn;split<;>omega
 unfold iMeet
 rw [Qm h,show Zd aa=false from rfl]
 show (if Zd (mx a (-2147483648),mn b 2147483647)=true then nn else (mx a (-2147483648),mn b 2147483647))=_
 rw [e1,e2,Qm h]
 rfl
theorem ZWZ {a b c d:Int} (h1:a≤b) (h2:c≤d) (h3 : -2147483648≤a+c) (h4:b+d≤2147483647):doI 1 (a,b) (c,d)=((a+c,b+d),false,false):=by
 unfold doI
 rw [Qm h1,Qm h2]
 show Yi (a+c,b+d)=_
 unfold Yi
 have l:leqB (a+c,b+d) aa=true:=by
  unfold leqB
  rw [Qm (show a+c≤b+d by omega)]
  show (false||(decide (a+c≥-2147483648)&&decide (b+d≤2147483647)))=true
  rw [decide_eq_true (show a+c≥-2147483648 by omega),decide_eq_true h4]
  rfl
 rw [ZUv (by omega) h3 h4,l]
 rfl
theorem V4 {a b c d:Int} {l:List Int} (h1:a≤b) (h2:c≤d) (h3:a≤c) (h4:d≤b):widV (a,b) (c,d) l=(a,b):=by
 unfold widV
 rw [Qm h1,Qm h2,jnI h1 h2 (e:=a) (f:=b) ⟨by omega,h3,.inl rfl⟩ ⟨by omega,h4,.inl rfl⟩]
 simp only [Bool.false_eq_true,if_false]
 rw [if_neg (show ¬ (a<a) by omega),if_neg (show ¬ (b>b) by omega)]
def ZCl:List Sh:=[.dat (.int .i64)]
def ZFb:List Con:=[⟨24,Zkz,ZoP⟩,⟨20,Zl6,ZsU⟩,⟨26,Zi4,ZmN⟩]
def Zk3 (a0:Int):Option Bool:=bif decide (a0<0) then some true else bif decide (a0>1000000) then some true else Za (Zg0 (([3],[4],2,[(3,(([(12,0,0,0,0,0,0,IntKind.i64.wrap (0+1),0)]:List A)++[(1,1,0,0,0,a0,0,IntKind.i64.wrap (IntKind.i64.wrap (0+1)+1),0)]++[(11,0,0,1,0,0,1,IntKind.i64.wrap (IntKind.i64.wrap (IntKind.i64.wrap (0+1)+1)+1),6)]++[(1,2,0,0,0,1,0,IntKind.i64.wrap (IntKind.i64.wrap (IntKind.i64.wrap (IntKind.i64.wrap (0+1)+1)+1)+1),0)]++[(4,0,0,2,0,0,1,IntKind.i64.wrap (IntKind.i64.wrap (IntKind.i64.wrap (IntKind.i64.wrap (IntKind.i64.wrap (0+1)+1)+1)+1)+1),0)]++[(12,0,0,0,0,0,0,IntKind.i64.wrap (IntKind.i64.wrap (IntKind.i64.wrap (IntKind.i64.wrap (IntKind.i64.wrap (IntKind.i64.wrap (0+1)+1)+1)+1)+1)+1),0)]++[(14,0,0,0,0,0,0,(↑((((((([(12,0,0,0,0,0,0,0,0),(1,1,0,0,0,a0,0,0,0),(11,0,0,1,0,0,1,0,6),(1,2,0,0,0,1,0,0,0),(4,0,0,2,0,0,1,0,0),(12,0,0,0,0,0,0,0,0)]:List A).set (Int.toNat (0:Int)) (12,0,0,0,0,0,0,IntKind.i64.wrap (0+1),0)).set (IntKind.i64.wrap (0+1)).toNat (1,1,0,0,0,a0,0,IntKind.i64.wrap (IntKind.i64.wrap (0+1)+1),0)).set (IntKind.i64.wrap (IntKind.i64.wrap (0+1)+1)).toNat (11,0,0,1,0,0,1,IntKind.i64.wrap (IntKind.i64.wrap (IntKind.i64.wrap (0+1)+1)+1),6)).set (IntKind.i64.wrap (IntKind.i64.wrap (IntKind.i64.wrap (0+1)+1)+1)).toNat (1,2,0,0,0,1,0,IntKind.i64.wrap (IntKind.i64.wrap (IntKind.i64.wrap (IntKind.i64.wrap (0+1)+1)+1)+1),0)).set
 (IntKind.i64.wrap (IntKind.i64.wrap (IntKind.i64.wrap (IntKind.i64.wrap (0+1)+1)+1)+1)).toNat (4,0,0,2,0,0,1,IntKind.i64.wrap (IntKind.i64.wrap (IntKind.i64.wrap (IntKind.i64.wrap (IntKind.i64.wrap (0+1)+1)+1)+1)+1),0)).set (IntKind.i64.wrap (IntKind.i64.wrap (IntKind.i64.wrap (IntKind.i64.wrap (IntKind.i64.wrap (0+1)+1)+1)+1)+1)).toNat (12,0,0,0,0,0,0,IntKind.i64.wrap (IntKind.i64.wrap (IntKind.i64.wrap (IntKind.i64.wrap (IntKind.i64.wrap (IntKind.i64.wrap (0+1)+1)+1)+1)+1)+1),0)).length:Int),0)]).set (Int.toNat 5) (12,0,0,0,0,0,0,0,0))]),0,[],())) none fun d2=>bif !d2.2.2.2.2.2 then some false else bif (List.length d2.1:Int) !=7 then some false else bif (List.length d2.2.2.2.1:Int) !=0 then some false else Za d2.1[Int.toNat 6]? none fun d3=>bif !d3.1 then some false else Za d2.1[Int.toNat 6]? none fun d4=>bif (List.length d4.2.1:Int) !=3 then some false else Za d2.1[Int.toNat 6]? none fun d5=>Za d5.2.1[Int.toNat (0:Int)]? none fun d6=>bif d6.1==a0&&d6.2==a0 then Za (KI ()) none fun d7=>some d7 else some false
def ZrI (x:Int×Unit):Option Bool:=Zk3 x.1
def ZCq:=conP true ZCl (.dat .bool) ZrI
theorem ZTq:Zg Tryz.prog 9 ZCq:=Ze (calU ZFb [] 40 (1048576 ^ 9+1) 8 9) true (by rfl) (by rfl) (fun x r e=>(Zk _ _ _ _ _ _ _).trans ((show _=ZrI x by kernel_rfl).trans e)) (.inl rfl)
section
open Go.Proofs
def lpC (k:Int):C:=(3,[(12,0,0,0,0,0,0,1,0),(1,1,0,0,0,k,0,2,0),(11,0,0,1,0,0,1,3,6),(1,2,0,0,0,1,0,4,0),(4,0,0,2,0,0,1,5,0),(12,0,0,0,0,0,0,0,0),(14,0,0,0,0,0,0,6,0)])
def lpU (k:Int):U:=([3],[4],2,[lpC k])
section
variable {k t:Int} {l:List En} {st:List Int}
def E3 (a b c:I):E:=(true,[a,b,c],[(3,3)],[(0,0)],0,0)
theorem ZCn {fr to:Int} {es:List E} {ns:List Int}:comeV st fr to Zf es ns=(false,es,ns):=rfl
theorem JS (t:Int) {u:U} {i:Nat} {es es':List E} {ns ns':List Int} {d:A} {X:E} {al:List Int} {so:List En} {ac:List Ac} {b:Bool} (ho:oV u t (i:Int) ((es[i]?).getD Zf) l d=(X,Zf,al,so,ac)) (hc:comeV st (i:Int) d.2.2.2.2.2.2.2.1 X es ns=(true,es',ns')):nodeC u t l st i (b,es,ns) d=(true,es',ns'):=by
 unfold nodeC
 show (b||(comeV st (i:Int) d.2.2.2.2.2.2.2.1 (oV u t (i:Int) ((es[i]?).getD Zf) l d).1 es ns).1||_,_,_)=_
 simp only [ho,hc,ZCn]
 cases b<;>rfl
theorem Zss (t:Int) {u:U} {i:Nat} {es:List E} {ns:List Int} {d:A} {X:E} {al:List Int} {so:List En} {ac:List Ac} {b:Bool} (ho:oV u t (i:Int) ((es[i]?).getD Zf) l d=(X,Zf,al,so,ac)) (hc:comeV st (i:Int) d.2.2.2.2.2.2.2.1 X es ns=(false,es,ns)):nodeC u t l st i (b,es,ns) d=(b,es,ns):=by
 unfold nodeC
 show (b||(comeV st (i:Int) d.2.2.2.2.2.2.2.1 (oV u t (i:Int) ((es[i]?).getD Zf) l d).1 es ns).1||_,_,_)=_
 simp only [ho,hc,ZCn]
 cases b<;>rfl
theorem ZEk (t:Int) {u:U} {i:Nat} {es:List E} {ns:List Int} {d:A} {b:Bool} (he:(es[i]?).getD Zf=Zf):nodeC u t l st i (b,es,ns) d=(b,es,ns):=by
 refine Zss t (X:=Zf) (al:=[]) (so:=[]) (ac:=[]) ?_ ZCn
 rw [he]
 rfl
theorem ZEs {a b:E} (ha:a.1=true) (h:a≠b):sameE a b=false:=by
 cases q:sameE a b
 ·rfl
 ·exact absurd (ZJK ha q) h
theorem ZEb {fr to n:Int} {X:E} {es:List E} {ns:List Int} (hX:X.1=true) (g1:es[to.toNat]? = some Zf) (g2:ns[to.toNat]? = some n) (hf:fr<to):comeV st fr to X es ns=(true,es.set to.toNat X,ns):=by
 have hn:nxtV st fr to Zf X n=X:=by
  unfold nxtV
  rw [if_neg (fun q=>by omega)]
  unfold eJoin
  rw [hX]
  rfl
 unfold comeV
 simp only [hX,g1,g2,hn]
 rw [ZEs hX (fun q=>by rw [q] at hX;cases hX),cond_false,if_neg (show ¬ to≤fr by omega)]
theorem K3 {fr to n:Int} {X old N:E} {es:List E} {ns:List Int} (hX:X.1=true) (g1:es[to.toNat]? = some old) (g2:ns[to.toNat]? = some n) (hj:eJoin Zl old X=N) (hf:fr<to) (hne:N≠old):comeV st fr to X es ns=(true,es.set to.toNat N,ns):=by
 have hn:nxtV st fr to old X n=N:=by
  unfold nxtV
  rw [if_neg (fun q=>by omega)];exact hj
 have on:N.1=true:=by rw [← hj];exact ZbI hX
 unfold comeV
 simp only [hX,g1,g2,hn]
 rw [ZEs on hne,cond_false,if_neg (show ¬ to≤fr by omega)]
theorem ZlZ {fr to n:Int} {X old:E} {es:List E} {ns:List Int} (hX:X.1=true) (g1:es[to.toNat]? = some old) (g2:ns[to.toNat]? = some n) (hj:eJoin Zl old X=old) (hf:fr<to):comeV st fr to X es ns=(false,es,ns):=by
 have hn:nxtV st fr to old X n=old:=by
  unfold nxtV
  rw [if_neg (fun q=>by omega)];exact hj
 unfold comeV
 simp only [hX,g1,g2,hn,ZpJ,cond_true]
theorem ZM1 {fr to n:Int} {X old N:E} {es:List E} {ns:List Int} (hX:X.1=true) (g1:es[to.toNat]? = some old) (g2:ns[to.toNat]? = some n) (hj:eJoin Zl old X=N) (hb:to≤fr) (hn3:n<3) (hne:N≠old):comeV st fr to X es ns=(true,es.set to.toNat N,ns.set to.toNat (IntKind.i64.wrap (n+1))):=by
 have hn:nxtV st fr to old X n=N:=by
  unfold nxtV
  rw [if_neg (fun q=>by omega)];exact hj
 have on:N.1=true:=by rw [← hj];exact ZbI hX
 unfold comeV
 simp only [hX,g1,g2,hn]
 rw [ZEs on hne,cond_false,if_pos hb]
theorem ZRq {fr to n:Int} {X old J N:E} {es:List E} {ns:List Int} (hX:X.1=true) (g1:es[to.toNat]? = some old) (g2:ns[to.toNat]? = some n) (hj:eJoin Zl old X=J) (hw:eJoin (widF st) old J=N) (hb:to≤fr) (hn3:n≥3) (hne:N≠old):comeV st fr to X es ns=(true,es.set to.toNat N,ns.set to.toNat (IntKind.i64.wrap (n+1))):=by
 have hn:nxtV st fr to old X n=N:=by
  unfold nxtV
  rw [if_pos ⟨hb,hn3⟩,hj];exact hw
 have on:N.1=true:=by rw [← hw];exact ZbI (by rw [← hj];exact ZbI hX)
 unfold comeV
 simp only [hX,g1,g2,hn]
 rw [ZEs on hne,cond_false,if_pos hb]
theorem ZSn {fr to n:Int} {X old J:E} {es:List E} {ns:List Int} (hX:X.1=true) (g1:es[to.toNat]? = some old) (g2:ns[to.toNat]? = some n) (hj:eJoin Zl old X=J) (hw:eJoin (widF st) old J=old) (hb:to≤fr) (hn3:n≥3):comeV st fr to X es ns=(false,es,ns):=by
 have hn:nxtV st fr to old X n=old:=by
  unfold nxtV
  rw [if_pos ⟨hb,hn3⟩,hj];exact hw
 unfold comeV
 simp only [hX,g1,g2,hn,ZpJ,cond_true]
theorem ZYm {u:U} {i:Nat} {es es1 es2:List E} {ns ns1 ns2:List Int} {d:A} {X Y:E} {b c1 c2:Bool} {z:St3} (ho:oV u 0 (i:Int) ((es[i]?).getD Zf) l d=(X,Y,[],[],[])) (hc:comeV st (i:Int) d.2.2.2.2.2.2.2.1 X es ns=(c1,es1,ns1)) (hd:comeV st (i:Int) d.2.2.2.2.2.2.2.2 Y es1 ns1=(c2,es2,ns2)) (hz:((b||c1||c2,es2,ns2):St3)=z):nodeC u 0 l st i (b,es,ns) d=z:=by
 rw [← hz]
 unfold nodeC
 simp only [ho,hc,hd]
theorem e3 (F:I→I→I) (a0 a1 a2 b0 b1 b2:I):eJoin F (E3 a0 a1 a2) (E3 b0 b1 b2)=(true,[F a0 b0,F a1 b1,F a2 b2],[F (3,3) (3,3)],[F (0,0) (0,0)],0,0):=by kernel_rfl
theorem j3 {a0 a1 a2 b0 b1 b2 c0 c1 c2:I} (h0:Zl a0 b0=c0) (h1:Zl a1 b1=c1) (h2:Zl a2 b2=c2):eJoin Zl (E3 a0 a1 a2) (E3 b0 b1 b2)=E3 c0 c1 c2:=by
 rw [e3,h0,h1,h2];rfl
theorem w3 {a0 a1 a2 b0 b1 b2 c0 c1 c2:I} (h0:widV a0 b0 st=c0) (h1:widV a1 b1 st=c1) (h2:widV a2 b2 st=c2):eJoin (widF st) (E3 a0 a1 a2) (E3 b0 b1 b2)=E3 c0 c1 c2:=by
 rw [e3]
 unfold widF
 rw [h0,h1,h2,V4 (a:=3) (b:=3) (by omega) (by omega) (by omega) (by omega),V4 (a:=0) (b:=0) (by omega) (by omega) (by omega) (by omega)]
 rfl
theorem qd0 {a b a' b':Int} {x1 x2 y1 y2:I} (h:b≠b'):E3 (a,b) x1 x2≠E3 (a',b') y1 y2:=fun q=>by simp only [E3,Prod.mk.injEq,List.cons.injEq,and_true,true_and] at q;omega
theorem Zur {m:Int} (z:I):∀ (l:List Int) (s:I),m≤s.2→(∀ d∈l,z.2≤d→m≤d)→(s.2=m∨(m∈l∧fitB m=true∧z.2≤m))→(l.foldl (fun s d=>if fitB d then (if d≤z.1 then mx s.1 d else s.1,if d≥z.2 then mn s.2 d else s.2) else (s.1,s.2)) s).2=m
 | [],s,_,_,h=>h.elim id fun q=>absurd q.1 (by simp)
 | d::r,s,hs,hl,h=>by
  rw [List.foldl_cons]
  have hl':∀ d∈r,z.2≤d→m≤d:=fun x hx=>hl x (by simp [hx])
  have hd:=hl d (by simp)
  by_cases hf:fitB d=true
  ·rw [if_pos hf]
   by_cases hz:d≥z.2
   ·have hd:=hd hz
    have e:mn s.2 d=if s.2>d then d else s.2:=rfl
    refine Zur z r _ ?_ hl' ?_
    ·show m≤(if d≥z.2 then mn s.2 d else s.2)
     rw [if_pos hz];unfold mn;split<;>omega
    ·show (if d≥z.2 then mn s.2 d else s.2)=m∨_
     rw [if_pos hz]
     rcases h with h | ⟨h,h',h2⟩
     ·left;unfold mn;split<;>omega
     ·rcases List.mem_cons.1 h with rfl | h
      ·left;unfold mn;split<;>omega
      ·exact .inr ⟨h,h',h2⟩
   ·refine Zur z r _ ?_ hl' ?_
    ·show m≤(if d≥z.2 then mn s.2 d else s.2)
     rw [if_neg hz];exact hs
    ·show (if d≥z.2 then mn s.2 d else s.2)=m∨_
     rw [if_neg hz]
     rcases h with h | ⟨h,h',h2⟩
     ·exact .inl h
     ·rcases List.mem_cons.1 h with rfl | h
      ·exact absurd h2 hz
      ·exact .inr ⟨h,h',h2⟩
  ·rw [if_neg hf]
   refine Zur z r _ hs hl' ?_
   rcases h with h | ⟨h,h',h2⟩
   ·exact .inl h
   ·rcases List.mem_cons.1 h with rfl | h
    ·exact absurd h' hf
    ·exact .inr ⟨h,h',h2⟩
theorem ZOX {a b b' m:Int} {l:List Int} (h1:a≤b) (h2:b<b') (hm:m∈l∧fitB m=true) (h4:b'≤m) (h5:m≤2147483647) (h:∀ d∈l,b'≤d→m≤d):widV (a,b) (a,b') l=(a,m):=by
 unfold widV
 rw [Qm h1,Qm (show a≤b' by omega),jnI h1 (show a≤b' by omega) (e:=a) (f:=b') ⟨by omega,by omega,.inl rfl⟩ ⟨by omega,by omega,.inr rfl⟩]
 simp only [Bool.false_eq_true,if_false]
 rw [if_neg (show ¬ (a<a) by omega),if_pos (show b' > b from h2)]
 unfold widS
 rw [Zur (m:=m) (a,b') l aa h5 h (.inr ⟨hm.1,hm.2,h4⟩)]
theorem ZGN {d:Int} (hd:d∈Zv (lpU k)):d = -1∨d=0∨d=1∨d=2∨d=3∨d=4∨d=k - 1∨d=k∨d=k+1:=by
 have ha:allN (lpU k)=[3,4,4 - 1,k,k - 1,k+1,1,1 - 1,1+1]:=rfl
 rcases (ZD3 _ _).1 hd with ⟨h,_⟩ | h
 ·rw [ha] at h
  simp only [List.mem_cons,List.not_mem_nil,or_false] at h
  omega
 ·simp only [List.mem_cons,List.not_mem_nil,or_false] at h
  omega
theorem ZNQ {d:Int} (h:(d=4∨d=k - 1∨d=k)∧6≤k∧k≤1000000):d∈Zv (lpU k)∧fitB d=true:=by
 have hf:fitB d=true:=Jw.2 (by omega)
 have ha:allN (lpU k)=[3,4,4 - 1,k,k - 1,k+1,1,1 - 1,1+1]:=rfl
 refine ⟨(ZD3 _ _).2 (.inl ⟨?_,hf⟩),hf⟩
 rw [ha]
 simp only [List.mem_cons,List.not_mem_nil,or_false]
 omega
section
variable {v0 v1 v2:I}
theorem p0:oV (lpU k) 0 0 (E3 v0 v1 v2) [] (12,0,0,0,0,0,0,1,0)=(E3 v0 v1 v2,Zf,[],[],[]):=rfl
theorem p5:oV (lpU k) 0 5 (E3 v0 v1 v2) [] (12,0,0,0,0,0,0,0,0)=(E3 v0 v1 v2,Zf,[],[],[]):=rfl
theorem p1:oV (lpU k) 0 1 (E3 v0 v1 v2) [] (1,1,0,0,0,k,0,2,0)=(E3 v0 (k,k) v2,Zf,[],[],[]):=rfl
theorem p3:oV (lpU k) 0 3 (E3 v0 v1 v2) [] (1,2,0,0,0,1,0,4,0)=(E3 v0 v1 (1,1),Zf,[],[],[]):=rfl
theorem p6:oV (lpU k) 0 6 (E3 v0 v1 v2) [] (14,0,0,0,0,0,0,6,0)=(Zf,Zf,[],[],[]):=rfl
theorem p2 {a h:Int}:oV (lpU k) 0 2 (E3 (a,h) (k,k) v2) [] (11,0,0,1,0,0,1,3,6)=(sideV (E3 (a,h) (k,k) v2) 0 1 1 (a,h) (k,k),sideV (E3 (a,h) (k,k) v2) 0 1 5 (a,h) (k,k),[],[],[]):=rfl
theorem ZVm {a h m:Int} (h1:a≤h) (h2:a<k) (hm:m≤h∧m≤k - 1∧(m=h∨m=k - 1)):sideV (E3 (a,h) (k,k) v2) 0 1 1 (a,h) (k,k)=E3 (a,m) (k,k) v2:=by
 have e1:mn h (k - 1)=m:=by unfold mn;split<;>omega
 have e2:mx k (a+1)=k:=by unfold mx;split<;>omega
 have r:refI 1 (a,h) (k,k)=((a,m),(k,k)):=by
  show both (a,h) (k,k) (a,mn h (k - 1)) (mx k (a+1),k)=_
  rw [e1,e2]
  unfold both
  rw [Qm h1,Qm (Int.le_refl k),Qm (show a≤m by omega)]
  rfl
 unfold sideV
 rw [r]
 show (bif Zd (a,m) then Zf else bif Zd (k,k) then Zf else _)=_
 rw [Qm (Int.le_refl k),Qm (show a≤m by omega)]
 rfl
theorem Z0o {a h:Int} (h1:a≤h) (h2:h<k):sideV (E3 (a,h) (k,k) v2) 0 1 5 (a,h) (k,k)=Zf:=by
 have e1:Zd (mx a k,h)=true:=dT0 (show mx a k>h by unfold mx;split<;>omega)
 unfold sideV
 show (bif Zd (both (a,h) (k,k) (mx a k,h) (k,mn k h)).1 then Zf else _)=_
 rw [show Zd (both (a,h) (k,k) (mx a k,h) (k,mn k h)).1=true by unfold both;rw [e1];simp;rfl]
 rfl
theorem Z0n {a h:Int} (h1:a≤k) (h2:k≤h):sideV (E3 (a,h) (k,k) v2) 0 1 5 (a,h) (k,k)=E3 (k,h) (k,k) v2:=by
 have e1:mx a k=k:=by unfold mx;split<;>omega
 have e2:mn k h=k:=by unfold mn;split<;>omega
 have r:refI 5 (a,h) (k,k)=((k,h),(k,k)):=by
  show both (a,h) (k,k) (mx a k,h) (k,mn k h)=_
  rw [e1,e2]
  unfold both
  rw [Qm (show a≤h by omega),Qm (Int.le_refl k),Qm h2]
  rfl
 unfold sideV
 rw [r]
 show (bif Zd (k,h) then Zf else bif Zd (k,k) then Zf else _)=_
 rw [Qm (Int.le_refl k),Qm h2]
 rfl
theorem p2a {a h m:Int} (h1:a≤h) (h2:a<k) (hm:m≤h∧m≤k - 1∧(m=h∨m=k - 1)) (h3:h<k):oV (lpU k) 0 2 (E3 (a,h) (k,k) v2) [] (11,0,0,1,0,0,1,3,6)=(E3 (a,m) (k,k) v2,Zf,[],[],[]):=by
 rw [p2,ZVm h1 h2 hm,Z0o h1 h3]
theorem p2b {a h m:Int} (h1:a≤h) (h2:a<k) (hm:m≤h∧m≤k - 1∧(m=h∨m=k - 1)) (h3:k≤h):oV (lpU k) 0 2 (E3 (a,h) (k,k) v2) [] (11,0,0,1,0,0,1,3,6)=(E3 (a,m) (k,k) v2,E3 (k,h) (k,k) v2,[],[],[]):=by
 rw [p2,ZVm h1 h2 hm,Z0n (by omega) h3]
theorem p4 {a b c d e f:Int} (h1:a≤b) (h2:c≤d) (h3 : -2147483648≤a+c) (h4:b+d≤2147483647) (he:a+c=e) (hf:b+d=f):oV (lpU k) 0 4 (E3 (a,b) v1 (c,d)) [] (4,0,0,2,0,0,1,5,0)=(E3 (e,f) v1 (c,d),Zf,[],[],[]):=by
 rw [← he,← hf]
 show (bif Zd (doI 1 (a,b) (c,d)).1 then Zf else setE (E3 (a,b) v1 (c,d)) 0 (doI 1 (a,b) (c,d)).1,Zf,(bif (doI 1 (a,b) (c,d)).2.1 then [7] else [])++(bif (doI 1 (a,b) (c,d)).2.2 then [8] else []),_,_)=_
 rw [ZWZ h1 h2 h3 h4]
 show (bif Zd (a+c,b+d) then Zf else _,_,_,_,_)=_
 rw [Qm (by omega)]
 rfl
end
theorem ZpH {u:U} {c:C} {d0 d1 d2 d3 d4 d5 d6:A} {es:List E} {ns:List Int} {s1 s2 s3 s4 s5 s6 s7:St3} (hc:c.2=[d0,d1,d2,d3,d4,d5,d6]) (h0:nodeC u t l st 0 (false,es,ns) d0=s1) (h1:nodeC u t l st 1 s1 d1=s2) (h2:nodeC u t l st 2 s2 d2=s3) (h3:nodeC u t l st 3 s3 d3=s4) (h4:nodeC u t l st 4 s4 d4=s5) (h5:nodeC u t l st 5 s5 d5=s6) (h6:nodeC u t l st 6 s6 d6=s7):Za5 u t l st c es ns=s7:=by
 unfold Za5
 rw [hc]
 simp only [ZU,Nat.zero_add,Nat.reduceAdd]
 rw [h0,h1,h2,h3,h4,h5,h6]
theorem Zt9 {n:Nat} {u:U} {c:C} {es es':List E} {ns ns':List Int} {r:Int} {ch:Bool} (h:Za5 u t l st c es ns=(ch,es',ns')):runC u t l st c (n+1) es ns r false=runC u t l st c n es' ns' (r+1) (!ch):=by
 show (fun z:St3=>runC u t l st c n z.2.1 z.2.2 (r+1) (!z.1)) (Za5 u t l st c es ns)=_
 rw [h]
theorem Z0m {n:Nat} {u:U} {c:C} {es:List E} {ns:List Int} {r:Int}:runC u t l st c n es ns r true=(es,ns,r,true):=by cases n<;>rfl
theorem ZXc (h1:6≤k) (h2:k≤1000000) (b:Bool):nodeC (lpU k) 0 [] (Zv (lpU k)) 0 (b,[E3 (0,0) (0,0) (0,0),Zf,Zf,Zf,Zf,Zf,Zf],[0,0,0,0,0,0,0]) (12,0,0,0,0,0,0,1,0)=(true,[E3 (0,0) (0,0) (0,0),E3 (0,0) (0,0) (0,0),Zf,Zf,Zf,Zf,Zf],[0,0,0,0,0,0,0]):=
 JS 0 (X:=E3 (0,0) (0,0) (0,0)) (p0) (ZEb (fr:=0) (to:=1) (n:=0) rfl rfl rfl (by decide))
theorem ZXd (h1:6≤k) (h2:k≤1000000) (b:Bool):nodeC (lpU k) 0 [] (Zv (lpU k)) 1 (b,[E3 (0,0) (0,0) (0,0),E3 (0,0) (0,0) (0,0),Zf,Zf,Zf,Zf,Zf],[0,0,0,0,0,0,0]) (1,1,0,0,0,k,0,2,0)=(true,[E3 (0,0) (0,0) (0,0),E3 (0,0) (0,0) (0,0),E3 (0,0) (k,k) (0,0),Zf,Zf,Zf,Zf],[0,0,0,0,0,0,0]):=
 JS 0 (X:=E3 (0,0) (k,k) (0,0)) (p1) (ZEb (fr:=1) (to:=2) (n:=0) rfl rfl rfl (by decide))
theorem ZXe (h1:6≤k) (h2:k≤1000000) (b:Bool):nodeC (lpU k) 0 [] (Zv (lpU k)) 2 (b,[E3 (0,0) (0,0) (0,0),E3 (0,0) (0,0) (0,0),E3 (0,0) (k,k) (0,0),Zf,Zf,Zf,Zf],[0,0,0,0,0,0,0]) (11,0,0,1,0,0,1,3,6)=(true,[E3 (0,0) (0,0) (0,0),E3 (0,0) (0,0) (0,0),E3 (0,0) (k,k) (0,0),E3 (0,0) (k,k) (0,0),Zf,Zf,Zf],[0,0,0,0,0,0,0]):=
 JS 0 (X:=E3 (0,0) (k,k) (0,0)) (p2a (by omega) (by omega) (by omega) (by omega)) (ZEb (fr:=2) (to:=3) (n:=0) rfl rfl rfl (by decide))
theorem ZXf (h1:6≤k) (h2:k≤1000000) (b:Bool):nodeC (lpU k) 0 [] (Zv (lpU k)) 3 (b,[E3 (0,0) (0,0) (0,0),E3 (0,0) (0,0) (0,0),E3 (0,0) (k,k) (0,0),E3 (0,0) (k,k) (0,0),Zf,Zf,Zf],[0,0,0,0,0,0,0]) (1,2,0,0,0,1,0,4,0)=(true,[E3 (0,0) (0,0) (0,0),E3 (0,0) (0,0) (0,0),E3 (0,0) (k,k) (0,0),E3 (0,0) (k,k) (0,0),E3 (0,0) (k,k) (1,1),Zf,Zf],[0,0,0,0,0,0,0]):=
 JS 0 (X:=E3 (0,0) (k,k) (1,1)) (p3) (ZEb (fr:=3) (to:=4) (n:=0) rfl rfl rfl (by decide))
theorem ZXg (h1:6≤k) (h2:k≤1000000) (b:Bool):nodeC (lpU k) 0 [] (Zv (lpU k)) 4 (b,[E3 (0,0) (0,0) (0,0),E3 (0,0) (0,0) (0,0),E3 (0,0) (k,k) (0,0),E3 (0,0) (k,k) (0,0),E3 (0,0) (k,k) (1,1),Zf,Zf],[0,0,0,0,0,0,0]) (4,0,0,2,0,0,1,5,0)=(true,[E3 (0,0) (0,0) (0,0),E3 (0,0) (0,0) (0,0),E3 (0,0) (k,k) (0,0),E3 (0,0) (k,k) (0,0),E3 (0,0) (k,k) (1,1),E3 (1,1) (k,k) (1,1),Zf],[0,0,0,0,0,0,0]):=
 JS 0 (X:=E3 (1,1) (k,k) (1,1)) (p4 (by omega) (by omega) (by omega) (by omega) (by omega) (by omega)) (ZEb (fr:=4) (to:=5) (n:=0) rfl rfl rfl (by decide))
theorem ZXh (h1:6≤k) (h2:k≤1000000) (b:Bool):nodeC (lpU k) 0 [] (Zv (lpU k)) 5 (b,[E3 (0,0) (0,0) (0,0),E3 (0,0) (0,0) (0,0),E3 (0,0) (k,k) (0,0),E3 (0,0) (k,k) (0,0),E3 (0,0) (k,k) (1,1),E3 (1,1) (k,k) (1,1),Zf],[0,0,0,0,0,0,0]) (12,0,0,0,0,0,0,0,0)=(true,[E3 (0,1) (0,k) (0,1),E3 (0,0) (0,0) (0,0),E3 (0,0) (k,k) (0,0),E3 (0,0) (k,k) (0,0),E3 (0,0) (k,k) (1,1),E3 (1,1) (k,k) (1,1),Zf],[1,0,0,0,0,0,0]):=
 JS 0 (X:=E3 (1,1) (k,k) (1,1)) (p5) (ZM1 (fr:=5) (to:=0) (n:=0) (old:=E3 (0,0) (0,0) (0,0)) (N:=E3 (0,1) (0,k) (0,1)) rfl rfl rfl (j3 (jnI (by omega) (by omega) (by omega) (by omega)) (jnI (by omega) (by omega) (by omega) (by omega)) (jnI (by omega) (by omega) (by omega) (by omega))) (by decide) (by decide) (qd0 (by omega)))
theorem ZXi (h1:6≤k) (h2:k≤1000000) (b:Bool):nodeC (lpU k) 0 [] (Zv (lpU k)) 6 (b,[E3 (0,1) (0,k) (0,1),E3 (0,0) (0,0) (0,0),E3 (0,0) (k,k) (0,0),E3 (0,0) (k,k) (0,0),E3 (0,0) (k,k) (1,1),E3 (1,1) (k,k) (1,1),Zf],[1,0,0,0,0,0,0]) (14,0,0,0,0,0,0,6,0)=(b,[E3 (0,1) (0,k) (0,1),E3 (0,0) (0,0) (0,0),E3 (0,0) (k,k) (0,0),E3 (0,0) (k,k) (0,0),E3 (0,0) (k,k) (1,1),E3 (1,1) (k,k) (1,1),Zf],[1,0,0,0,0,0,0]):=ZEk 0 rfl
theorem ZZZ (h1:6≤k) (h2:k≤1000000):Za5 (lpU k) 0 [] (Zv (lpU k)) (lpC k) [E3 (0,0) (0,0) (0,0),Zf,Zf,Zf,Zf,Zf,Zf] [0,0,0,0,0,0,0]=(true,[E3 (0,1) (0,k) (0,1),E3 (0,0) (0,0) (0,0),E3 (0,0) (k,k) (0,0),E3 (0,0) (k,k) (0,0),E3 (0,0) (k,k) (1,1),E3 (1,1) (k,k) (1,1),Zf],[1,0,0,0,0,0,0]):=ZpH rfl (ZXc h1 h2 _) (ZXd h1 h2 _) (ZXe h1 h2 _) (ZXf h1 h2 _) (ZXg h1 h2 _) (ZXh h1 h2 _) (ZXi h1 h2 _)
theorem ZXj (h1:6≤k) (h2:k≤1000000) (b:Bool):nodeC (lpU k) 0 [] (Zv (lpU k)) 0 (b,[E3 (0,1) (0,k) (0,1),E3 (0,0) (0,0) (0,0),E3 (0,0) (k,k) (0,0),E3 (0,0) (k,k) (0,0),E3 (0,0) (k,k) (1,1),E3 (1,1) (k,k) (1,1),Zf],[1,0,0,0,0,0,0]) (12,0,0,0,0,0,0,1,0)=(true,[E3 (0,1) (0,k) (0,1),E3 (0,1) (0,k) (0,1),E3 (0,0) (k,k) (0,0),E3 (0,0) (k,k) (0,0),E3 (0,0) (k,k) (1,1),E3 (1,1) (k,k) (1,1),Zf],[1,0,0,0,0,0,0]):=
 JS 0 (X:=E3 (0,1) (0,k) (0,1)) (p0) (K3 (fr:=0) (to:=1) (n:=0) (old:=E3 (0,0) (0,0) (0,0)) (N:=E3 (0,1) (0,k) (0,1)) rfl rfl rfl (j3 (jnI (by omega) (by omega) (by omega) (by omega)) (jnI (by omega) (by omega) (by omega) (by omega)) (jnI (by omega) (by omega) (by omega) (by omega))) (by decide) (qd0 (by omega)))
theorem ZXk (h1:6≤k) (h2:k≤1000000) (b:Bool):nodeC (lpU k) 0 [] (Zv (lpU k)) 1 (b,[E3 (0,1) (0,k) (0,1),E3 (0,1) (0,k) (0,1),E3 (0,0) (k,k) (0,0),E3 (0,0) (k,k) (0,0),E3 (0,0) (k,k) (1,1),E3 (1,1) (k,k) (1,1),Zf],[1,0,0,0,0,0,0]) (1,1,0,0,0,k,0,2,0)=(true,[E3 (0,1) (0,k) (0,1),E3 (0,1) (0,k) (0,1),E3 (0,1) (k,k) (0,1),E3 (0,0) (k,k) (0,0),E3 (0,0) (k,k) (1,1),E3 (1,1) (k,k) (1,1),Zf],[1,0,0,0,0,0,0]):=
 JS 0 (X:=E3 (0,1) (k,k) (0,1)) (p1) (K3 (fr:=1) (to:=2) (n:=0) (old:=E3 (0,0) (k,k) (0,0)) (N:=E3 (0,1) (k,k) (0,1)) rfl rfl rfl (j3 (jnI (by omega) (by omega) (by omega) (by omega)) (jnI (by omega) (by omega) (by omega) (by omega)) (jnI (by omega) (by omega) (by omega) (by omega))) (by decide) (qd0 (by omega)))
theorem ZXl (h1:6≤k) (h2:k≤1000000) (b:Bool):nodeC (lpU k) 0 [] (Zv (lpU k)) 2 (b,[E3 (0,1) (0,k) (0,1),E3 (0,1) (0,k) (0,1),E3 (0,1) (k,k) (0,1),E3 (0,0) (k,k) (0,0),E3 (0,0) (k,k) (1,1),E3 (1,1) (k,k) (1,1),Zf],[1,0,0,0,0,0,0]) (11,0,0,1,0,0,1,3,6)=(true,[E3 (0,1) (0,k) (0,1),E3 (0,1) (0,k) (0,1),E3 (0,1) (k,k) (0,1),E3 (0,1) (k,k) (0,1),E3 (0,0) (k,k) (1,1),E3 (1,1) (k,k) (1,1),Zf],[1,0,0,0,0,0,0]):=
 JS 0 (X:=E3 (0,1) (k,k) (0,1)) (p2a (by omega) (by omega) (by omega) (by omega)) (K3 (fr:=2) (to:=3) (n:=0) (old:=E3 (0,0) (k,k) (0,0)) (N:=E3 (0,1) (k,k) (0,1)) rfl rfl rfl (j3 (jnI (by omega) (by omega) (by omega) (by omega)) (jnI (by omega) (by omega) (by omega) (by omega)) (jnI (by omega) (by omega) (by omega) (by omega))) (by decide) (qd0 (by omega)))
theorem ZXm (h1:6≤k) (h2:k≤1000000) (b:Bool):nodeC (lpU k) 0 [] (Zv (lpU k)) 3 (b,[E3 (0,1) (0,k) (0,1),E3 (0,1) (0,k) (0,1),E3 (0,1) (k,k) (0,1),E3 (0,1) (k,k) (0,1),E3 (0,0) (k,k) (1,1),E3 (1,1) (k,k) (1,1),Zf],[1,0,0,0,0,0,0]) (1,2,0,0,0,1,0,4,0)=(true,[E3 (0,1) (0,k) (0,1),E3 (0,1) (0,k) (0,1),E3 (0,1) (k,k) (0,1),E3 (0,1) (k,k) (0,1),E3 (0,1) (k,k) (1,1),E3 (1,1) (k,k) (1,1),Zf],[1,0,0,0,0,0,0]):=
 JS 0 (X:=E3 (0,1) (k,k) (1,1)) (p3) (K3 (fr:=3) (to:=4) (n:=0) (old:=E3 (0,0) (k,k) (1,1)) (N:=E3 (0,1) (k,k) (1,1)) rfl rfl rfl (j3 (jnI (by omega) (by omega) (by omega) (by omega)) (jnI (by omega) (by omega) (by omega) (by omega)) (jnI (by omega) (by omega) (by omega) (by omega))) (by decide) (qd0 (by omega)))
theorem ZXn (h1:6≤k) (h2:k≤1000000) (b:Bool):nodeC (lpU k) 0 [] (Zv (lpU k)) 4 (b,[E3 (0,1) (0,k) (0,1),E3 (0,1) (0,k) (0,1),E3 (0,1) (k,k) (0,1),E3 (0,1) (k,k) (0,1),E3 (0,1) (k,k) (1,1),E3 (1,1) (k,k) (1,1),Zf],[1,0,0,0,0,0,0]) (4,0,0,2,0,0,1,5,0)=(true,[E3 (0,1) (0,k) (0,1),E3 (0,1) (0,k) (0,1),E3 (0,1) (k,k) (0,1),E3 (0,1) (k,k) (0,1),E3 (0,1) (k,k) (1,1),E3 (1,2) (k,k) (1,1),Zf],[1,0,0,0,0,0,0]):=
 JS 0 (X:=E3 (1,2) (k,k) (1,1)) (p4 (by omega) (by omega) (by omega) (by omega) (by omega) (by omega)) (K3 (fr:=4) (to:=5) (n:=0) (old:=E3 (1,1) (k,k) (1,1)) (N:=E3 (1,2) (k,k) (1,1)) rfl rfl rfl (j3 (jnI (by omega) (by omega) (by omega) (by omega)) (jnI (by omega) (by omega) (by omega) (by omega)) (jnI (by omega) (by omega) (by omega) (by omega))) (by decide) (qd0 (by omega)))
theorem ZXo (h1:6≤k) (h2:k≤1000000) (b:Bool):nodeC (lpU k) 0 [] (Zv (lpU k)) 5 (b,[E3 (0,1) (0,k) (0,1),E3 (0,1) (0,k) (0,1),E3 (0,1) (k,k) (0,1),E3 (0,1) (k,k) (0,1),E3 (0,1) (k,k) (1,1),E3 (1,2) (k,k) (1,1),Zf],[1,0,0,0,0,0,0]) (12,0,0,0,0,0,0,0,0)=(true,[E3 (0,2) (0,k) (0,1),E3 (0,1) (0,k) (0,1),E3 (0,1) (k,k) (0,1),E3 (0,1) (k,k) (0,1),E3 (0,1) (k,k) (1,1),E3 (1,2) (k,k) (1,1),Zf],[2,0,0,0,0,0,0]):=
 JS 0 (X:=E3 (1,2) (k,k) (1,1)) (p5) (ZM1 (fr:=5) (to:=0) (n:=1) (old:=E3 (0,1) (0,k) (0,1)) (N:=E3 (0,2) (0,k) (0,1)) rfl rfl rfl (j3 (jnI (by omega) (by omega) (by omega) (by omega)) (jnI (by omega) (by omega) (by omega) (by omega)) (jnI (by omega) (by omega) (by omega) (by omega))) (by decide) (by decide) (qd0 (by omega)))
theorem ZXp (h1:6≤k) (h2:k≤1000000) (b:Bool):nodeC (lpU k) 0 [] (Zv (lpU k)) 6 (b,[E3 (0,2) (0,k) (0,1),E3 (0,1) (0,k) (0,1),E3 (0,1) (k,k) (0,1),E3 (0,1) (k,k) (0,1),E3 (0,1) (k,k) (1,1),E3 (1,2) (k,k) (1,1),Zf],[2,0,0,0,0,0,0]) (14,0,0,0,0,0,0,6,0)=(b,[E3 (0,2) (0,k) (0,1),E3 (0,1) (0,k) (0,1),E3 (0,1) (k,k) (0,1),E3 (0,1) (k,k) (0,1),E3 (0,1) (k,k) (1,1),E3 (1,2) (k,k) (1,1),Zf],[2,0,0,0,0,0,0]):=ZEk 0 rfl
theorem ZZ0 (h1:6≤k) (h2:k≤1000000):Za5 (lpU k) 0 [] (Zv (lpU k)) (lpC k) [E3 (0,1) (0,k) (0,1),E3 (0,0) (0,0) (0,0),E3 (0,0) (k,k) (0,0),E3 (0,0) (k,k) (0,0),E3 (0,0) (k,k) (1,1),E3 (1,1) (k,k) (1,1),Zf] [1,0,0,0,0,0,0]=(true,[E3 (0,2) (0,k) (0,1),E3 (0,1) (0,k) (0,1),E3 (0,1) (k,k) (0,1),E3 (0,1) (k,k) (0,1),E3 (0,1) (k,k) (1,1),E3 (1,2) (k,k) (1,1),Zf],[2,0,0,0,0,0,0]):=ZpH rfl (ZXj h1 h2 _) (ZXk h1 h2 _) (ZXl h1 h2 _) (ZXm h1 h2 _) (ZXn h1 h2 _) (ZXo h1 h2 _) (ZXp h1 h2 _)
theorem ZXq (h1:6≤k) (h2:k≤1000000) (b:Bool):nodeC (lpU k) 0 [] (Zv (lpU k)) 0 (b,[E3 (0,2) (0,k) (0,1),E3 (0,1) (0,k) (0,1),E3 (0,1) (k,k) (0,1),E3 (0,1) (k,k) (0,1),E3 (0,1) (k,k) (1,1),E3 (1,2) (k,k) (1,1),Zf],[2,0,0,0,0,0,0]) (12,0,0,0,0,0,0,1,0)=(true,[E3 (0,2) (0,k) (0,1),E3 (0,2) (0,k) (0,1),E3 (0,1) (k,k) (0,1),E3 (0,1) (k,k) (0,1),E3 (0,1) (k,k) (1,1),E3 (1,2) (k,k) (1,1),Zf],[2,0,0,0,0,0,0]):=
 JS 0 (X:=E3 (0,2) (0,k) (0,1)) (p0) (K3 (fr:=0) (to:=1) (n:=0) (old:=E3 (0,1) (0,k) (0,1)) (N:=E3 (0,2) (0,k) (0,1)) rfl rfl rfl (j3 (jnI (by omega) (by omega) (by omega) (by omega)) (jnI (by omega) (by omega) (by omega) (by omega)) (jnI (by omega) (by omega) (by omega) (by omega))) (by decide) (qd0 (by omega)))
theorem ZXr (h1:6≤k) (h2:k≤1000000) (b:Bool):nodeC (lpU k) 0 [] (Zv (lpU k)) 1 (b,[E3 (0,2) (0,k) (0,1),E3 (0,2) (0,k) (0,1),E3 (0,1) (k,k) (0,1),E3 (0,1) (k,k) (0,1),E3 (0,1) (k,k) (1,1),E3 (1,2) (k,k) (1,1),Zf],[2,0,0,0,0,0,0]) (1,1,0,0,0,k,0,2,0)=(true,[E3 (0,2) (0,k) (0,1),E3 (0,2) (0,k) (0,1),E3 (0,2) (k,k) (0,1),E3 (0,1) (k,k) (0,1),E3 (0,1) (k,k) (1,1),E3 (1,2) (k,k) (1,1),Zf],[2,0,0,0,0,0,0]):=
 JS 0 (X:=E3 (0,2) (k,k) (0,1)) (p1) (K3 (fr:=1) (to:=2) (n:=0) (old:=E3 (0,1) (k,k) (0,1)) (N:=E3 (0,2) (k,k) (0,1)) rfl rfl rfl (j3 (jnI (by omega) (by omega) (by omega) (by omega)) (jnI (by omega) (by omega) (by omega) (by omega)) (jnI (by omega) (by omega) (by omega) (by omega))) (by decide) (qd0 (by omega)))
theorem ZXs (h1:6≤k) (h2:k≤1000000) (b:Bool):nodeC (lpU k) 0 [] (Zv (lpU k)) 2 (b,[E3 (0,2) (0,k) (0,1),E3 (0,2) (0,k) (0,1),E3 (0,2) (k,k) (0,1),E3 (0,1) (k,k) (0,1),E3 (0,1) (k,k) (1,1),E3 (1,2) (k,k) (1,1),Zf],[2,0,0,0,0,0,0]) (11,0,0,1,0,0,1,3,6)=(true,[E3 (0,2) (0,k) (0,1),E3 (0,2) (0,k) (0,1),E3 (0,2) (k,k) (0,1),E3 (0,2) (k,k) (0,1),E3 (0,1) (k,k) (1,1),E3 (1,2) (k,k) (1,1),Zf],[2,0,0,0,0,0,0]):=
 JS 0 (X:=E3 (0,2) (k,k) (0,1)) (p2a (by omega) (by omega) (by omega) (by omega)) (K3 (fr:=2) (to:=3) (n:=0) (old:=E3 (0,1) (k,k) (0,1)) (N:=E3 (0,2) (k,k) (0,1)) rfl rfl rfl (j3 (jnI (by omega) (by omega) (by omega) (by omega)) (jnI (by omega) (by omega) (by omega) (by omega)) (jnI (by omega) (by omega) (by omega) (by omega))) (by decide) (qd0 (by omega)))
theorem ZXt (h1:6≤k) (h2:k≤1000000) (b:Bool):nodeC (lpU k) 0 [] (Zv (lpU k)) 3 (b,[E3 (0,2) (0,k) (0,1),E3 (0,2) (0,k) (0,1),E3 (0,2) (k,k) (0,1),E3 (0,2) (k,k) (0,1),E3 (0,1) (k,k) (1,1),E3 (1,2) (k,k) (1,1),Zf],[2,0,0,0,0,0,0]) (1,2,0,0,0,1,0,4,0)=(true,[E3 (0,2) (0,k) (0,1),E3 (0,2) (0,k) (0,1),E3 (0,2) (k,k) (0,1),E3 (0,2) (k,k) (0,1),E3 (0,2) (k,k) (1,1),E3 (1,2) (k,k) (1,1),Zf],[2,0,0,0,0,0,0]):=
 JS 0 (X:=E3 (0,2) (k,k) (1,1)) (p3) (K3 (fr:=3) (to:=4) (n:=0) (old:=E3 (0,1) (k,k) (1,1)) (N:=E3 (0,2) (k,k) (1,1)) rfl rfl rfl (j3 (jnI (by omega) (by omega) (by omega) (by omega)) (jnI (by omega) (by omega) (by omega) (by omega)) (jnI (by omega) (by omega) (by omega) (by omega))) (by decide) (qd0 (by omega)))
theorem ZXu (h1:6≤k) (h2:k≤1000000) (b:Bool):nodeC (lpU k) 0 [] (Zv (lpU k)) 4 (b,[E3 (0,2) (0,k) (0,1),E3 (0,2) (0,k) (0,1),E3 (0,2) (k,k) (0,1),E3 (0,2) (k,k) (0,1),E3 (0,2) (k,k) (1,1),E3 (1,2) (k,k) (1,1),Zf],[2,0,0,0,0,0,0]) (4,0,0,2,0,0,1,5,0)=(true,[E3 (0,2) (0,k) (0,1),E3 (0,2) (0,k) (0,1),E3 (0,2) (k,k) (0,1),E3 (0,2) (k,k) (0,1),E3 (0,2) (k,k) (1,1),E3 (1,3) (k,k) (1,1),Zf],[2,0,0,0,0,0,0]):=
 JS 0 (X:=E3 (1,3) (k,k) (1,1)) (p4 (by omega) (by omega) (by omega) (by omega) (by omega) (by omega)) (K3 (fr:=4) (to:=5) (n:=0) (old:=E3 (1,2) (k,k) (1,1)) (N:=E3 (1,3) (k,k) (1,1)) rfl rfl rfl (j3 (jnI (by omega) (by omega) (by omega) (by omega)) (jnI (by omega) (by omega) (by omega) (by omega)) (jnI (by omega) (by omega) (by omega) (by omega))) (by decide) (qd0 (by omega)))
theorem ZXv (h1:6≤k) (h2:k≤1000000) (b:Bool):nodeC (lpU k) 0 [] (Zv (lpU k)) 5 (b,[E3 (0,2) (0,k) (0,1),E3 (0,2) (0,k) (0,1),E3 (0,2) (k,k) (0,1),E3 (0,2) (k,k) (0,1),E3 (0,2) (k,k) (1,1),E3 (1,3) (k,k) (1,1),Zf],[2,0,0,0,0,0,0]) (12,0,0,0,0,0,0,0,0)=(true,[E3 (0,3) (0,k) (0,1),E3 (0,2) (0,k) (0,1),E3 (0,2) (k,k) (0,1),E3 (0,2) (k,k) (0,1),E3 (0,2) (k,k) (1,1),E3 (1,3) (k,k) (1,1),Zf],[3,0,0,0,0,0,0]):=
 JS 0 (X:=E3 (1,3) (k,k) (1,1)) (p5) (ZM1 (fr:=5) (to:=0) (n:=2) (old:=E3 (0,2) (0,k) (0,1)) (N:=E3 (0,3) (0,k) (0,1)) rfl rfl rfl (j3 (jnI (by omega) (by omega) (by omega) (by omega)) (jnI (by omega) (by omega) (by omega) (by omega)) (jnI (by omega) (by omega) (by omega) (by omega))) (by decide) (by decide) (qd0 (by omega)))
theorem ZXw (h1:6≤k) (h2:k≤1000000) (b:Bool):nodeC (lpU k) 0 [] (Zv (lpU k)) 6 (b,[E3 (0,3) (0,k) (0,1),E3 (0,2) (0,k) (0,1),E3 (0,2) (k,k) (0,1),E3 (0,2) (k,k) (0,1),E3 (0,2) (k,k) (1,1),E3 (1,3) (k,k) (1,1),Zf],[3,0,0,0,0,0,0]) (14,0,0,0,0,0,0,6,0)=(b,[E3 (0,3) (0,k) (0,1),E3 (0,2) (0,k) (0,1),E3 (0,2) (k,k) (0,1),E3 (0,2) (k,k) (0,1),E3 (0,2) (k,k) (1,1),E3 (1,3) (k,k) (1,1),Zf],[3,0,0,0,0,0,0]):=ZEk 0 rfl
theorem ZZ1 (h1:6≤k) (h2:k≤1000000):Za5 (lpU k) 0 [] (Zv (lpU k)) (lpC k) [E3 (0,2) (0,k) (0,1),E3 (0,1) (0,k) (0,1),E3 (0,1) (k,k) (0,1),E3 (0,1) (k,k) (0,1),E3 (0,1) (k,k) (1,1),E3 (1,2) (k,k) (1,1),Zf] [2,0,0,0,0,0,0]=(true,[E3 (0,3) (0,k) (0,1),E3 (0,2) (0,k) (0,1),E3 (0,2) (k,k) (0,1),E3 (0,2) (k,k) (0,1),E3 (0,2) (k,k) (1,1),E3 (1,3) (k,k) (1,1),Zf],[3,0,0,0,0,0,0]):=ZpH rfl (ZXq h1 h2 _) (ZXr h1 h2 _) (ZXs h1 h2 _) (ZXt h1 h2 _) (ZXu h1 h2 _) (ZXv h1 h2 _) (ZXw h1 h2 _)
theorem ZXx (h1:6≤k) (h2:k≤1000000) (b:Bool):nodeC (lpU k) 0 [] (Zv (lpU k)) 0 (b,[E3 (0,3) (0,k) (0,1),E3 (0,2) (0,k) (0,1),E3 (0,2) (k,k) (0,1),E3 (0,2) (k,k) (0,1),E3 (0,2) (k,k) (1,1),E3 (1,3) (k,k) (1,1),Zf],[3,0,0,0,0,0,0]) (12,0,0,0,0,0,0,1,0)=(true,[E3 (0,3) (0,k) (0,1),E3 (0,3) (0,k) (0,1),E3 (0,2) (k,k) (0,1),E3 (0,2) (k,k) (0,1),E3 (0,2) (k,k) (1,1),E3 (1,3) (k,k) (1,1),Zf],[3,0,0,0,0,0,0]):=
 JS 0 (X:=E3 (0,3) (0,k) (0,1)) (p0) (K3 (fr:=0) (to:=1) (n:=0) (old:=E3 (0,2) (0,k) (0,1)) (N:=E3 (0,3) (0,k) (0,1)) rfl rfl rfl (j3 (jnI (by omega) (by omega) (by omega) (by omega)) (jnI (by omega) (by omega) (by omega) (by omega)) (jnI (by omega) (by omega) (by omega) (by omega))) (by decide) (qd0 (by omega)))
theorem ZXy (h1:6≤k) (h2:k≤1000000) (b:Bool):nodeC (lpU k) 0 [] (Zv (lpU k)) 1 (b,[E3 (0,3) (0,k) (0,1),E3 (0,3) (0,k) (0,1),E3 (0,2) (k,k) (0,1),E3 (0,2) (k,k) (0,1),E3 (0,2) (k,k) (1,1),E3 (1,3) (k,k) (1,1),Zf],[3,0,0,0,0,0,0]) (1,1,0,0,0,k,0,2,0)=(true,[E3 (0,3) (0,k) (0,1),E3 (0,3) (0,k) (0,1),E3 (0,3) (k,k) (0,1),E3 (0,2) (k,k) (0,1),E3 (0,2) (k,k) (1,1),E3 (1,3) (k,k) (1,1),Zf],[3,0,0,0,0,0,0]):=
 JS 0 (X:=E3 (0,3) (k,k) (0,1)) (p1) (K3 (fr:=1) (to:=2) (n:=0) (old:=E3 (0,2) (k,k) (0,1)) (N:=E3 (0,3) (k,k) (0,1)) rfl rfl rfl (j3 (jnI (by omega) (by omega) (by omega) (by omega)) (jnI (by omega) (by omega) (by omega) (by omega)) (jnI (by omega) (by omega) (by omega) (by omega))) (by decide) (qd0 (by omega)))
theorem ZXz (h1:6≤k) (h2:k≤1000000) (b:Bool):nodeC (lpU k) 0 [] (Zv (lpU k)) 2 (b,[E3 (0,3) (0,k) (0,1),E3 (0,3) (0,k) (0,1),E3 (0,3) (k,k) (0,1),E3 (0,2) (k,k) (0,1),E3 (0,2) (k,k) (1,1),E3 (1,3) (k,k) (1,1),Zf],[3,0,0,0,0,0,0]) (11,0,0,1,0,0,1,3,6)=(true,[E3 (0,3) (0,k) (0,1),E3 (0,3) (0,k) (0,1),E3 (0,3) (k,k) (0,1),E3 (0,3) (k,k) (0,1),E3 (0,2) (k,k) (1,1),E3 (1,3) (k,k) (1,1),Zf],[3,0,0,0,0,0,0]):=
 JS 0 (X:=E3 (0,3) (k,k) (0,1)) (p2a (by omega) (by omega) (by omega) (by omega)) (K3 (fr:=2) (to:=3) (n:=0) (old:=E3 (0,2) (k,k) (0,1)) (N:=E3 (0,3) (k,k) (0,1)) rfl rfl rfl (j3 (jnI (by omega) (by omega) (by omega) (by omega)) (jnI (by omega) (by omega) (by omega) (by omega)) (jnI (by omega) (by omega) (by omega) (by omega))) (by decide) (qd0 (by omega)))
theorem ZXA (h1:6≤k) (h2:k≤1000000) (b:Bool):nodeC (lpU k) 0 [] (Zv (lpU k)) 3 (b,[E3 (0,3) (0,k) (0,1),E3 (0,3) (0,k) (0,1),E3 (0,3) (k,k) (0,1),E3 (0,3) (k,k) (0,1),E3 (0,2) (k,k) (1,1),E3 (1,3) (k,k) (1,1),Zf],[3,0,0,0,0,0,0]) (1,2,0,0,0,1,0,4,0)=(true,[E3 (0,3) (0,k) (0,1),E3 (0,3) (0,k) (0,1),E3 (0,3) (k,k) (0,1),E3 (0,3) (k,k) (0,1),E3 (0,3) (k,k) (1,1),E3 (1,3) (k,k) (1,1),Zf],[3,0,0,0,0,0,0]):=
 JS 0 (X:=E3 (0,3) (k,k) (1,1)) (p3) (K3 (fr:=3) (to:=4) (n:=0) (old:=E3 (0,2) (k,k) (1,1)) (N:=E3 (0,3) (k,k) (1,1)) rfl rfl rfl (j3 (jnI (by omega) (by omega) (by omega) (by omega)) (jnI (by omega) (by omega) (by omega) (by omega)) (jnI (by omega) (by omega) (by omega) (by omega))) (by decide) (qd0 (by omega)))
theorem ZXB (h1:6≤k) (h2:k≤1000000) (b:Bool):nodeC (lpU k) 0 [] (Zv (lpU k)) 4 (b,[E3 (0,3) (0,k) (0,1),E3 (0,3) (0,k) (0,1),E3 (0,3) (k,k) (0,1),E3 (0,3) (k,k) (0,1),E3 (0,3) (k,k) (1,1),E3 (1,3) (k,k) (1,1),Zf],[3,0,0,0,0,0,0]) (4,0,0,2,0,0,1,5,0)=(true,[E3 (0,3) (0,k) (0,1),E3 (0,3) (0,k) (0,1),E3 (0,3) (k,k) (0,1),E3 (0,3) (k,k) (0,1),E3 (0,3) (k,k) (1,1),E3 (1,4) (k,k) (1,1),Zf],[3,0,0,0,0,0,0]):=
 JS 0 (X:=E3 (1,4) (k,k) (1,1)) (p4 (by omega) (by omega) (by omega) (by omega) (by omega) (by omega)) (K3 (fr:=4) (to:=5) (n:=0) (old:=E3 (1,3) (k,k) (1,1)) (N:=E3 (1,4) (k,k) (1,1)) rfl rfl rfl (j3 (jnI (by omega) (by omega) (by omega) (by omega)) (jnI (by omega) (by omega) (by omega) (by omega)) (jnI (by omega) (by omega) (by omega) (by omega))) (by decide) (qd0 (by omega)))
theorem ZXC (h1:6≤k) (h2:k≤1000000) (b:Bool):nodeC (lpU k) 0 [] (Zv (lpU k)) 5 (b,[E3 (0,3) (0,k) (0,1),E3 (0,3) (0,k) (0,1),E3 (0,3) (k,k) (0,1),E3 (0,3) (k,k) (0,1),E3 (0,3) (k,k) (1,1),E3 (1,4) (k,k) (1,1),Zf],[3,0,0,0,0,0,0]) (12,0,0,0,0,0,0,0,0)=(true,[E3 (0,4) (0,k) (0,1),E3 (0,3) (0,k) (0,1),E3 (0,3) (k,k) (0,1),E3 (0,3) (k,k) (0,1),E3 (0,3) (k,k) (1,1),E3 (1,4) (k,k) (1,1),Zf],[4,0,0,0,0,0,0]):=
 JS 0 (X:=E3 (1,4) (k,k) (1,1)) (p5) (ZRq (fr:=5) (to:=0) (n:=3) (old:=E3 (0,3) (0,k) (0,1)) (J:=E3 (0,4) (0,k) (0,1)) (N:=E3 (0,4) (0,k) (0,1)) rfl rfl rfl (j3 (jnI (by omega) (by omega) (by omega) (by omega)) (jnI (by omega) (by omega) (by omega) (by omega)) (jnI (by omega) (by omega) (by omega) (by omega))) (w3 (ZOX (m:=4) (by omega) (by omega) (ZNQ (by omega)) (by omega) (by omega) (fun d hd he=>by have:=ZGN hd;omega)) (V4 (by omega) (by omega) (by omega) (by omega)) (V4 (by omega) (by omega) (by omega) (by omega))) (by decide) (by decide) (qd0 (by omega)))
theorem ZXD (h1:6≤k) (h2:k≤1000000) (b:Bool):nodeC (lpU k) 0 [] (Zv (lpU k)) 6 (b,[E3 (0,4) (0,k) (0,1),E3 (0,3) (0,k) (0,1),E3 (0,3) (k,k) (0,1),E3 (0,3) (k,k) (0,1),E3 (0,3) (k,k) (1,1),E3 (1,4) (k,k) (1,1),Zf],[4,0,0,0,0,0,0]) (14,0,0,0,0,0,0,6,0)=(b,[E3 (0,4) (0,k) (0,1),E3 (0,3) (0,k) (0,1),E3 (0,3) (k,k) (0,1),E3 (0,3) (k,k) (0,1),E3 (0,3) (k,k) (1,1),E3 (1,4) (k,k) (1,1),Zf],[4,0,0,0,0,0,0]):=ZEk 0 rfl
theorem ZZ2 (h1:6≤k) (h2:k≤1000000):Za5 (lpU k) 0 [] (Zv (lpU k)) (lpC k) [E3 (0,3) (0,k) (0,1),E3 (0,2) (0,k) (0,1),E3 (0,2) (k,k) (0,1),E3 (0,2) (k,k) (0,1),E3 (0,2) (k,k) (1,1),E3 (1,3) (k,k) (1,1),Zf] [3,0,0,0,0,0,0]=(true,[E3 (0,4) (0,k) (0,1),E3 (0,3) (0,k) (0,1),E3 (0,3) (k,k) (0,1),E3 (0,3) (k,k) (0,1),E3 (0,3) (k,k) (1,1),E3 (1,4) (k,k) (1,1),Zf],[4,0,0,0,0,0,0]):=ZpH rfl (ZXx h1 h2 _) (ZXy h1 h2 _) (ZXz h1 h2 _) (ZXA h1 h2 _) (ZXB h1 h2 _) (ZXC h1 h2 _) (ZXD h1 h2 _)
theorem ZXE (h1:6≤k) (h2:k≤1000000) (b:Bool):nodeC (lpU k) 0 [] (Zv (lpU k)) 0 (b,[E3 (0,4) (0,k) (0,1),E3 (0,3) (0,k) (0,1),E3 (0,3) (k,k) (0,1),E3 (0,3) (k,k) (0,1),E3 (0,3) (k,k) (1,1),E3 (1,4) (k,k) (1,1),Zf],[4,0,0,0,0,0,0]) (12,0,0,0,0,0,0,1,0)=(true,[E3 (0,4) (0,k) (0,1),E3 (0,4) (0,k) (0,1),E3 (0,3) (k,k) (0,1),E3 (0,3) (k,k) (0,1),E3 (0,3) (k,k) (1,1),E3 (1,4) (k,k) (1,1),Zf],[4,0,0,0,0,0,0]):=
 JS 0 (X:=E3 (0,4) (0,k) (0,1)) (p0) (K3 (fr:=0) (to:=1) (n:=0) (old:=E3 (0,3) (0,k) (0,1)) (N:=E3 (0,4) (0,k) (0,1)) rfl rfl rfl (j3 (jnI (by omega) (by omega) (by omega) (by omega)) (jnI (by omega) (by omega) (by omega) (by omega)) (jnI (by omega) (by omega) (by omega) (by omega))) (by decide) (qd0 (by omega)))
theorem ZXF (h1:6≤k) (h2:k≤1000000) (b:Bool):nodeC (lpU k) 0 [] (Zv (lpU k)) 1 (b,[E3 (0,4) (0,k) (0,1),E3 (0,4) (0,k) (0,1),E3 (0,3) (k,k) (0,1),E3 (0,3) (k,k) (0,1),E3 (0,3) (k,k) (1,1),E3 (1,4) (k,k) (1,1),Zf],[4,0,0,0,0,0,0]) (1,1,0,0,0,k,0,2,0)=(true,[E3 (0,4) (0,k) (0,1),E3 (0,4) (0,k) (0,1),E3 (0,4) (k,k) (0,1),E3 (0,3) (k,k) (0,1),E3 (0,3) (k,k) (1,1),E3 (1,4) (k,k) (1,1),Zf],[4,0,0,0,0,0,0]):=
 JS 0 (X:=E3 (0,4) (k,k) (0,1)) (p1) (K3 (fr:=1) (to:=2) (n:=0) (old:=E3 (0,3) (k,k) (0,1)) (N:=E3 (0,4) (k,k) (0,1)) rfl rfl rfl (j3 (jnI (by omega) (by omega) (by omega) (by omega)) (jnI (by omega) (by omega) (by omega) (by omega)) (jnI (by omega) (by omega) (by omega) (by omega))) (by decide) (qd0 (by omega)))
theorem ZXG (h1:6≤k) (h2:k≤1000000) (b:Bool):nodeC (lpU k) 0 [] (Zv (lpU k)) 2 (b,[E3 (0,4) (0,k) (0,1),E3 (0,4) (0,k) (0,1),E3 (0,4) (k,k) (0,1),E3 (0,3) (k,k) (0,1),E3 (0,3) (k,k) (1,1),E3 (1,4) (k,k) (1,1),Zf],[4,0,0,0,0,0,0]) (11,0,0,1,0,0,1,3,6)=(true,[E3 (0,4) (0,k) (0,1),E3 (0,4) (0,k) (0,1),E3 (0,4) (k,k) (0,1),E3 (0,4) (k,k) (0,1),E3 (0,3) (k,k) (1,1),E3 (1,4) (k,k) (1,1),Zf],[4,0,0,0,0,0,0]):=
 JS 0 (X:=E3 (0,4) (k,k) (0,1)) (p2a (by omega) (by omega) (by omega) (by omega)) (K3 (fr:=2) (to:=3) (n:=0) (old:=E3 (0,3) (k,k) (0,1)) (N:=E3 (0,4) (k,k) (0,1)) rfl rfl rfl (j3 (jnI (by omega) (by omega) (by omega) (by omega)) (jnI (by omega) (by omega) (by omega) (by omega)) (jnI (by omega) (by omega) (by omega) (by omega))) (by decide) (qd0 (by omega)))
theorem ZXH (h1:6≤k) (h2:k≤1000000) (b:Bool):nodeC (lpU k) 0 [] (Zv (lpU k)) 3 (b,[E3 (0,4) (0,k) (0,1),E3 (0,4) (0,k) (0,1),E3 (0,4) (k,k) (0,1),E3 (0,4) (k,k) (0,1),E3 (0,3) (k,k) (1,1),E3 (1,4) (k,k) (1,1),Zf],[4,0,0,0,0,0,0]) (1,2,0,0,0,1,0,4,0)=(true,[E3 (0,4) (0,k) (0,1),E3 (0,4) (0,k) (0,1),E3 (0,4) (k,k) (0,1),E3 (0,4) (k,k) (0,1),E3 (0,4) (k,k) (1,1),E3 (1,4) (k,k) (1,1),Zf],[4,0,0,0,0,0,0]):=
 JS 0 (X:=E3 (0,4) (k,k) (1,1)) (p3) (K3 (fr:=3) (to:=4) (n:=0) (old:=E3 (0,3) (k,k) (1,1)) (N:=E3 (0,4) (k,k) (1,1)) rfl rfl rfl (j3 (jnI (by omega) (by omega) (by omega) (by omega)) (jnI (by omega) (by omega) (by omega) (by omega)) (jnI (by omega) (by omega) (by omega) (by omega))) (by decide) (qd0 (by omega)))
theorem ZXI (h1:6≤k) (h2:k≤1000000) (b:Bool):nodeC (lpU k) 0 [] (Zv (lpU k)) 4 (b,[E3 (0,4) (0,k) (0,1),E3 (0,4) (0,k) (0,1),E3 (0,4) (k,k) (0,1),E3 (0,4) (k,k) (0,1),E3 (0,4) (k,k) (1,1),E3 (1,4) (k,k) (1,1),Zf],[4,0,0,0,0,0,0]) (4,0,0,2,0,0,1,5,0)=(true,[E3 (0,4) (0,k) (0,1),E3 (0,4) (0,k) (0,1),E3 (0,4) (k,k) (0,1),E3 (0,4) (k,k) (0,1),E3 (0,4) (k,k) (1,1),E3 (1,5) (k,k) (1,1),Zf],[4,0,0,0,0,0,0]):=
 JS 0 (X:=E3 (1,5) (k,k) (1,1)) (p4 (by omega) (by omega) (by omega) (by omega) (by omega) (by omega)) (K3 (fr:=4) (to:=5) (n:=0) (old:=E3 (1,4) (k,k) (1,1)) (N:=E3 (1,5) (k,k) (1,1)) rfl rfl rfl (j3 (jnI (by omega) (by omega) (by omega) (by omega)) (jnI (by omega) (by omega) (by omega) (by omega)) (jnI (by omega) (by omega) (by omega) (by omega))) (by decide) (qd0 (by omega)))
theorem ZXJ (h1:6≤k) (h2:k≤1000000) (b:Bool):nodeC (lpU k) 0 [] (Zv (lpU k)) 5 (b,[E3 (0,4) (0,k) (0,1),E3 (0,4) (0,k) (0,1),E3 (0,4) (k,k) (0,1),E3 (0,4) (k,k) (0,1),E3 (0,4) (k,k) (1,1),E3 (1,5) (k,k) (1,1),Zf],[4,0,0,0,0,0,0]) (12,0,0,0,0,0,0,0,0)=(true,[E3 (0,k - 1) (0,k) (0,1),E3 (0,4) (0,k) (0,1),E3 (0,4) (k,k) (0,1),E3 (0,4) (k,k) (0,1),E3 (0,4) (k,k) (1,1),E3 (1,5) (k,k) (1,1),Zf],[5,0,0,0,0,0,0]):=
 JS 0 (X:=E3 (1,5) (k,k) (1,1)) (p5) (ZRq (fr:=5) (to:=0) (n:=4) (old:=E3 (0,4) (0,k) (0,1)) (J:=E3 (0,5) (0,k) (0,1)) (N:=E3 (0,k - 1) (0,k) (0,1)) rfl rfl rfl (j3 (jnI (by omega) (by omega) (by omega) (by omega)) (jnI (by omega) (by omega) (by omega) (by omega)) (jnI (by omega) (by omega) (by omega) (by omega))) (w3 (ZOX (m:=k - 1) (by omega) (by omega) (ZNQ (by omega)) (by omega) (by omega) (fun d hd he=>by have:=ZGN hd;omega)) (V4 (by omega) (by omega) (by omega) (by omega)) (V4 (by omega) (by omega) (by omega) (by omega))) (by decide) (by decide) (qd0 (by omega)))
theorem ZXK (h1:6≤k) (h2:k≤1000000) (b:Bool):nodeC (lpU k) 0 [] (Zv (lpU k)) 6 (b,[E3 (0,k - 1) (0,k) (0,1),E3 (0,4) (0,k) (0,1),E3 (0,4) (k,k) (0,1),E3 (0,4) (k,k) (0,1),E3 (0,4) (k,k) (1,1),E3 (1,5) (k,k) (1,1),Zf],[5,0,0,0,0,0,0]) (14,0,0,0,0,0,0,6,0)=(b,[E3 (0,k - 1) (0,k) (0,1),E3 (0,4) (0,k) (0,1),E3 (0,4) (k,k) (0,1),E3 (0,4) (k,k) (0,1),E3 (0,4) (k,k) (1,1),E3 (1,5) (k,k) (1,1),Zf],[5,0,0,0,0,0,0]):=ZEk 0 rfl
theorem ZZ3 (h1:6≤k) (h2:k≤1000000):Za5 (lpU k) 0 [] (Zv (lpU k)) (lpC k) [E3 (0,4) (0,k) (0,1),E3 (0,3) (0,k) (0,1),E3 (0,3) (k,k) (0,1),E3 (0,3) (k,k) (0,1),E3 (0,3) (k,k) (1,1),E3 (1,4) (k,k) (1,1),Zf] [4,0,0,0,0,0,0]=(true,[E3 (0,k - 1) (0,k) (0,1),E3 (0,4) (0,k) (0,1),E3 (0,4) (k,k) (0,1),E3 (0,4) (k,k) (0,1),E3 (0,4) (k,k) (1,1),E3 (1,5) (k,k) (1,1),Zf],[5,0,0,0,0,0,0]):=ZpH rfl (ZXE h1 h2 _) (ZXF h1 h2 _) (ZXG h1 h2 _) (ZXH h1 h2 _) (ZXI h1 h2 _) (ZXJ h1 h2 _) (ZXK h1 h2 _)
theorem ZXL (h1:6≤k) (h2:k≤1000000) (b:Bool):nodeC (lpU k) 0 [] (Zv (lpU k)) 0 (b,[E3 (0,k - 1) (0,k) (0,1),E3 (0,4) (0,k) (0,1),E3 (0,4) (k,k) (0,1),E3 (0,4) (k,k) (0,1),E3 (0,4) (k,k) (1,1),E3 (1,5) (k,k) (1,1),Zf],[5,0,0,0,0,0,0]) (12,0,0,0,0,0,0,1,0)=(true,[E3 (0,k - 1) (0,k) (0,1),E3 (0,k - 1) (0,k) (0,1),E3 (0,4) (k,k) (0,1),E3 (0,4) (k,k) (0,1),E3 (0,4) (k,k) (1,1),E3 (1,5) (k,k) (1,1),Zf],[5,0,0,0,0,0,0]):=
 JS 0 (X:=E3 (0,k - 1) (0,k) (0,1)) (p0) (K3 (fr:=0) (to:=1) (n:=0) (old:=E3 (0,4) (0,k) (0,1)) (N:=E3 (0,k - 1) (0,k) (0,1)) rfl rfl rfl (j3 (jnI (by omega) (by omega) (by omega) (by omega)) (jnI (by omega) (by omega) (by omega) (by omega)) (jnI (by omega) (by omega) (by omega) (by omega))) (by decide) (qd0 (by omega)))
theorem ZXM (h1:6≤k) (h2:k≤1000000) (b:Bool):nodeC (lpU k) 0 [] (Zv (lpU k)) 1 (b,[E3 (0,k - 1) (0,k) (0,1),E3 (0,k - 1) (0,k) (0,1),E3 (0,4) (k,k) (0,1),E3 (0,4) (k,k) (0,1),E3 (0,4) (k,k) (1,1),E3 (1,5) (k,k) (1,1),Zf],[5,0,0,0,0,0,0]) (1,1,0,0,0,k,0,2,0)=(true,[E3 (0,k - 1) (0,k) (0,1),E3 (0,k - 1) (0,k) (0,1),E3 (0,k - 1) (k,k) (0,1),E3 (0,4) (k,k) (0,1),E3 (0,4) (k,k) (1,1),E3 (1,5) (k,k) (1,1),Zf],[5,0,0,0,0,0,0]):=
 JS 0 (X:=E3 (0,k - 1) (k,k) (0,1)) (p1) (K3 (fr:=1) (to:=2) (n:=0) (old:=E3 (0,4) (k,k) (0,1)) (N:=E3 (0,k - 1) (k,k) (0,1)) rfl rfl rfl (j3 (jnI (by omega) (by omega) (by omega) (by omega)) (jnI (by omega) (by omega) (by omega) (by omega)) (jnI (by omega) (by omega) (by omega) (by omega))) (by decide) (qd0 (by omega)))
theorem ZXN (h1:6≤k) (h2:k≤1000000) (b:Bool):nodeC (lpU k) 0 [] (Zv (lpU k)) 2 (b,[E3 (0,k - 1) (0,k) (0,1),E3 (0,k - 1) (0,k) (0,1),E3 (0,k - 1) (k,k) (0,1),E3 (0,4) (k,k) (0,1),E3 (0,4) (k,k) (1,1),E3 (1,5) (k,k) (1,1),Zf],[5,0,0,0,0,0,0]) (11,0,0,1,0,0,1,3,6)=(true,[E3 (0,k - 1) (0,k) (0,1),E3 (0,k - 1) (0,k) (0,1),E3 (0,k - 1) (k,k) (0,1),E3 (0,k - 1) (k,k) (0,1),E3 (0,4) (k,k) (1,1),E3 (1,5) (k,k) (1,1),Zf],[5,0,0,0,0,0,0]):=
 JS 0 (X:=E3 (0,k - 1) (k,k) (0,1)) (p2a (by omega) (by omega) (by omega) (by omega)) (K3 (fr:=2) (to:=3) (n:=0) (old:=E3 (0,4) (k,k) (0,1)) (N:=E3 (0,k - 1) (k,k) (0,1)) rfl rfl rfl (j3 (jnI (by omega) (by omega) (by omega) (by omega)) (jnI (by omega) (by omega) (by omega) (by omega)) (jnI (by omega) (by omega) (by omega) (by omega))) (by decide) (qd0 (by omega)))
theorem ZXO (h1:6≤k) (h2:k≤1000000) (b:Bool):nodeC (lpU k) 0 [] (Zv (lpU k)) 3 (b,[E3 (0,k - 1) (0,k) (0,1),E3 (0,k - 1) (0,k) (0,1),E3 (0,k - 1) (k,k) (0,1),E3 (0,k - 1) (k,k) (0,1),E3 (0,4) (k,k) (1,1),E3 (1,5) (k,k) (1,1),Zf],[5,0,0,0,0,0,0]) (1,2,0,0,0,1,0,4,0)=(true,[E3 (0,k - 1) (0,k) (0,1),E3 (0,k - 1) (0,k) (0,1),E3 (0,k - 1) (k,k) (0,1),E3 (0,k - 1) (k,k) (0,1),E3 (0,k - 1) (k,k) (1,1),E3 (1,5) (k,k) (1,1),Zf],[5,0,0,0,0,0,0]):=
 JS 0 (X:=E3 (0,k - 1) (k,k) (1,1)) (p3) (K3 (fr:=3) (to:=4) (n:=0) (old:=E3 (0,4) (k,k) (1,1)) (N:=E3 (0,k - 1) (k,k) (1,1)) rfl rfl rfl (j3 (jnI (by omega) (by omega) (by omega) (by omega)) (jnI (by omega) (by omega) (by omega) (by omega)) (jnI (by omega) (by omega) (by omega) (by omega))) (by decide) (qd0 (by omega)))
theorem ZXP (h1:6≤k) (h2:k≤1000000) (b:Bool):nodeC (lpU k) 0 [] (Zv (lpU k)) 4 (b,[E3 (0,k - 1) (0,k) (0,1),E3 (0,k - 1) (0,k) (0,1),E3 (0,k - 1) (k,k) (0,1),E3 (0,k - 1) (k,k) (0,1),E3 (0,k - 1) (k,k) (1,1),E3 (1,5) (k,k) (1,1),Zf],[5,0,0,0,0,0,0]) (4,0,0,2,0,0,1,5,0)=(true,[E3 (0,k - 1) (0,k) (0,1),E3 (0,k - 1) (0,k) (0,1),E3 (0,k - 1) (k,k) (0,1),E3 (0,k - 1) (k,k) (0,1),E3 (0,k - 1) (k,k) (1,1),E3 (1,k) (k,k) (1,1),Zf],[5,0,0,0,0,0,0]):=
 JS 0 (X:=E3 (1,k) (k,k) (1,1)) (p4 (by omega) (by omega) (by omega) (by omega) (by omega) (by omega)) (K3 (fr:=4) (to:=5) (n:=0) (old:=E3 (1,5) (k,k) (1,1)) (N:=E3 (1,k) (k,k) (1,1)) rfl rfl rfl (j3 (jnI (by omega) (by omega) (by omega) (by omega)) (jnI (by omega) (by omega) (by omega) (by omega)) (jnI (by omega) (by omega) (by omega) (by omega))) (by decide) (qd0 (by omega)))
theorem ZXQ (h1:6≤k) (h2:k≤1000000) (b:Bool):nodeC (lpU k) 0 [] (Zv (lpU k)) 5 (b,[E3 (0,k - 1) (0,k) (0,1),E3 (0,k - 1) (0,k) (0,1),E3 (0,k - 1) (k,k) (0,1),E3 (0,k - 1) (k,k) (0,1),E3 (0,k - 1) (k,k) (1,1),E3 (1,k) (k,k) (1,1),Zf],[5,0,0,0,0,0,0]) (12,0,0,0,0,0,0,0,0)=(true,[E3 (0,k) (0,k) (0,1),E3 (0,k - 1) (0,k) (0,1),E3 (0,k - 1) (k,k) (0,1),E3 (0,k - 1) (k,k) (0,1),E3 (0,k - 1) (k,k) (1,1),E3 (1,k) (k,k) (1,1),Zf],[6,0,0,0,0,0,0]):=
 JS 0 (X:=E3 (1,k) (k,k) (1,1)) (p5) (ZRq (fr:=5) (to:=0) (n:=5) (old:=E3 (0,k - 1) (0,k) (0,1)) (J:=E3 (0,k) (0,k) (0,1)) (N:=E3 (0,k) (0,k) (0,1)) rfl rfl rfl (j3 (jnI (by omega) (by omega) (by omega) (by omega)) (jnI (by omega) (by omega) (by omega) (by omega)) (jnI (by omega) (by omega) (by omega) (by omega))) (w3 (ZOX (m:=k) (by omega) (by omega) (ZNQ (by omega)) (by omega) (by omega) (fun d hd he=>by have:=ZGN hd;omega)) (V4 (by omega) (by omega) (by omega) (by omega)) (V4 (by omega) (by omega) (by omega) (by omega))) (by decide) (by decide) (qd0 (by omega)))
theorem ZXR (h1:6≤k) (h2:k≤1000000) (b:Bool):nodeC (lpU k) 0 [] (Zv (lpU k)) 6 (b,[E3 (0,k) (0,k) (0,1),E3 (0,k - 1) (0,k) (0,1),E3 (0,k - 1) (k,k) (0,1),E3 (0,k - 1) (k,k) (0,1),E3 (0,k - 1) (k,k) (1,1),E3 (1,k) (k,k) (1,1),Zf],[6,0,0,0,0,0,0]) (14,0,0,0,0,0,0,6,0)=(b,[E3 (0,k) (0,k) (0,1),E3 (0,k - 1) (0,k) (0,1),E3 (0,k - 1) (k,k) (0,1),E3 (0,k - 1) (k,k) (0,1),E3 (0,k - 1) (k,k) (1,1),E3 (1,k) (k,k) (1,1),Zf],[6,0,0,0,0,0,0]):=ZEk 0 rfl
theorem ZZ4 (h1:6≤k) (h2:k≤1000000):Za5 (lpU k) 0 [] (Zv (lpU k)) (lpC k) [E3 (0,k - 1) (0,k) (0,1),E3 (0,4) (0,k) (0,1),E3 (0,4) (k,k) (0,1),E3 (0,4) (k,k) (0,1),E3 (0,4) (k,k) (1,1),E3 (1,5) (k,k) (1,1),Zf] [5,0,0,0,0,0,0]=(true,[E3 (0,k) (0,k) (0,1),E3 (0,k - 1) (0,k) (0,1),E3 (0,k - 1) (k,k) (0,1),E3 (0,k - 1) (k,k) (0,1),E3 (0,k - 1) (k,k) (1,1),E3 (1,k) (k,k) (1,1),Zf],[6,0,0,0,0,0,0]):=ZpH rfl (ZXL h1 h2 _) (ZXM h1 h2 _) (ZXN h1 h2 _) (ZXO h1 h2 _) (ZXP h1 h2 _) (ZXQ h1 h2 _) (ZXR h1 h2 _)
theorem ZXS (h1:6≤k) (h2:k≤1000000) (b:Bool):nodeC (lpU k) 0 [] (Zv (lpU k)) 0 (b,[E3 (0,k) (0,k) (0,1),E3 (0,k - 1) (0,k) (0,1),E3 (0,k - 1) (k,k) (0,1),E3 (0,k - 1) (k,k) (0,1),E3 (0,k - 1) (k,k) (1,1),E3 (1,k) (k,k) (1,1),Zf],[6,0,0,0,0,0,0]) (12,0,0,0,0,0,0,1,0)=(true,[E3 (0,k) (0,k) (0,1),E3 (0,k) (0,k) (0,1),E3 (0,k - 1) (k,k) (0,1),E3 (0,k - 1) (k,k) (0,1),E3 (0,k - 1) (k,k) (1,1),E3 (1,k) (k,k) (1,1),Zf],[6,0,0,0,0,0,0]):=
 JS 0 (X:=E3 (0,k) (0,k) (0,1)) (p0) (K3 (fr:=0) (to:=1) (n:=0) (old:=E3 (0,k - 1) (0,k) (0,1)) (N:=E3 (0,k) (0,k) (0,1)) rfl rfl rfl (j3 (jnI (by omega) (by omega) (by omega) (by omega)) (jnI (by omega) (by omega) (by omega) (by omega)) (jnI (by omega) (by omega) (by omega) (by omega))) (by decide) (qd0 (by omega)))
theorem ZXT (h1:6≤k) (h2:k≤1000000) (b:Bool):nodeC (lpU k) 0 [] (Zv (lpU k)) 1 (b,[E3 (0,k) (0,k) (0,1),E3 (0,k) (0,k) (0,1),E3 (0,k - 1) (k,k) (0,1),E3 (0,k - 1) (k,k) (0,1),E3 (0,k - 1) (k,k) (1,1),E3 (1,k) (k,k) (1,1),Zf],[6,0,0,0,0,0,0]) (1,1,0,0,0,k,0,2,0)=(true,[E3 (0,k) (0,k) (0,1),E3 (0,k) (0,k) (0,1),E3 (0,k) (k,k) (0,1),E3 (0,k - 1) (k,k) (0,1),E3 (0,k - 1) (k,k) (1,1),E3 (1,k) (k,k) (1,1),Zf],[6,0,0,0,0,0,0]):=
 JS 0 (X:=E3 (0,k) (k,k) (0,1)) (p1) (K3 (fr:=1) (to:=2) (n:=0) (old:=E3 (0,k - 1) (k,k) (0,1)) (N:=E3 (0,k) (k,k) (0,1)) rfl rfl rfl (j3 (jnI (by omega) (by omega) (by omega) (by omega)) (jnI (by omega) (by omega) (by omega) (by omega)) (jnI (by omega) (by omega) (by omega) (by omega))) (by decide) (qd0 (by omega)))
theorem ZXU (h1:6≤k) (h2:k≤1000000) (b:Bool):nodeC (lpU k) 0 [] (Zv (lpU k)) 2 (b,[E3 (0,k) (0,k) (0,1),E3 (0,k) (0,k) (0,1),E3 (0,k) (k,k) (0,1),E3 (0,k - 1) (k,k) (0,1),E3 (0,k - 1) (k,k) (1,1),E3 (1,k) (k,k) (1,1),Zf],[6,0,0,0,0,0,0]) (11,0,0,1,0,0,1,3,6)=(true,[E3 (0,k) (0,k) (0,1),E3 (0,k) (0,k) (0,1),E3 (0,k) (k,k) (0,1),E3 (0,k - 1) (k,k) (0,1),E3 (0,k - 1) (k,k) (1,1),E3 (1,k) (k,k) (1,1),E3 (k,k) (k,k) (0,1)],[6,0,0,0,0,0,0]):=
 ZYm (c1:=false) (c2:=true) (X:=E3 (0,k - 1) (k,k) (0,1)) (Y:=E3 (k,k) (k,k) (0,1)) (p2b (by omega) (by omega) (by omega) (by omega)) (ZlZ (fr:=2) (to:=3) (n:=0) (old:=E3 (0,k - 1) (k,k) (0,1)) rfl rfl rfl (j3 (jnI (by omega) (by omega) (by omega) (by omega)) (jnI (by omega) (by omega) (by omega) (by omega)) (jnI (by omega) (by omega) (by omega) (by omega))) (by decide)) (ZEb (fr:=2) (to:=6) (n:=0) rfl rfl rfl (by decide)) (by cases b<;>rfl)
theorem ZXV (h1:6≤k) (h2:k≤1000000) (b:Bool):nodeC (lpU k) 0 [] (Zv (lpU k)) 3 (b,[E3 (0,k) (0,k) (0,1),E3 (0,k) (0,k) (0,1),E3 (0,k) (k,k) (0,1),E3 (0,k - 1) (k,k) (0,1),E3 (0,k - 1) (k,k) (1,1),E3 (1,k) (k,k) (1,1),E3 (k,k) (k,k) (0,1)],[6,0,0,0,0,0,0]) (1,2,0,0,0,1,0,4,0)=(b,[E3 (0,k) (0,k) (0,1),E3 (0,k) (0,k) (0,1),E3 (0,k) (k,k) (0,1),E3 (0,k - 1) (k,k) (0,1),E3 (0,k - 1) (k,k) (1,1),E3 (1,k) (k,k) (1,1),E3 (k,k) (k,k) (0,1)],[6,0,0,0,0,0,0]):=
 Zss 0 (X:=E3 (0,k - 1) (k,k) (1,1)) (p3) (ZlZ (fr:=3) (to:=4) (n:=0) (old:=E3 (0,k - 1) (k,k) (1,1)) rfl rfl rfl (j3 (jnI (by omega) (by omega) (by omega) (by omega)) (jnI (by omega) (by omega) (by omega) (by omega)) (jnI (by omega) (by omega) (by omega) (by omega))) (by decide))
theorem ZXW (h1:6≤k) (h2:k≤1000000) (b:Bool):nodeC (lpU k) 0 [] (Zv (lpU k)) 4 (b,[E3 (0,k) (0,k) (0,1),E3 (0,k) (0,k) (0,1),E3 (0,k) (k,k) (0,1),E3 (0,k - 1) (k,k) (0,1),E3 (0,k - 1) (k,k) (1,1),E3 (1,k) (k,k) (1,1),E3 (k,k) (k,k) (0,1)],[6,0,0,0,0,0,0]) (4,0,0,2,0,0,1,5,0)=(b,[E3 (0,k) (0,k) (0,1),E3 (0,k) (0,k) (0,1),E3 (0,k) (k,k) (0,1),E3 (0,k - 1) (k,k) (0,1),E3 (0,k - 1) (k,k) (1,1),E3 (1,k) (k,k) (1,1),E3 (k,k) (k,k) (0,1)],[6,0,0,0,0,0,0]):=
 Zss 0 (X:=E3 (1,k) (k,k) (1,1)) (p4 (by omega) (by omega) (by omega) (by omega) (by omega) (by omega)) (ZlZ (fr:=4) (to:=5) (n:=0) (old:=E3 (1,k) (k,k) (1,1)) rfl rfl rfl (j3 (jnI (by omega) (by omega) (by omega) (by omega)) (jnI (by omega) (by omega) (by omega) (by omega)) (jnI (by omega) (by omega) (by omega) (by omega))) (by decide))
theorem ZXX (h1:6≤k) (h2:k≤1000000) (b:Bool):nodeC (lpU k) 0 [] (Zv (lpU k)) 5 (b,[E3 (0,k) (0,k) (0,1),E3 (0,k) (0,k) (0,1),E3 (0,k) (k,k) (0,1),E3 (0,k - 1) (k,k) (0,1),E3 (0,k - 1) (k,k) (1,1),E3 (1,k) (k,k) (1,1),E3 (k,k) (k,k) (0,1)],[6,0,0,0,0,0,0]) (12,0,0,0,0,0,0,0,0)=(b,[E3 (0,k) (0,k) (0,1),E3 (0,k) (0,k) (0,1),E3 (0,k) (k,k) (0,1),E3 (0,k - 1) (k,k) (0,1),E3 (0,k - 1) (k,k) (1,1),E3 (1,k) (k,k) (1,1),E3 (k,k) (k,k) (0,1)],[6,0,0,0,0,0,0]):=
 Zss 0 (X:=E3 (1,k) (k,k) (1,1)) (p5) (ZSn (fr:=5) (to:=0) (n:=6) (old:=E3 (0,k) (0,k) (0,1)) (J:=E3 (0,k) (0,k) (0,1)) rfl rfl rfl (j3 (jnI (by omega) (by omega) (by omega) (by omega)) (jnI (by omega) (by omega) (by omega) (by omega)) (jnI (by omega) (by omega) (by omega) (by omega))) (w3 (V4 (by omega) (by omega) (by omega) (by omega)) (V4 (by omega) (by omega) (by omega) (by omega)) (V4 (by omega) (by omega) (by omega) (by omega))) (by decide) (by decide))
theorem ZXY (h1:6≤k) (h2:k≤1000000) (b:Bool):nodeC (lpU k) 0 [] (Zv (lpU k)) 6 (b,[E3 (0,k) (0,k) (0,1),E3 (0,k) (0,k) (0,1),E3 (0,k) (k,k) (0,1),E3 (0,k - 1) (k,k) (0,1),E3 (0,k - 1) (k,k) (1,1),E3 (1,k) (k,k) (1,1),E3 (k,k) (k,k) (0,1)],[6,0,0,0,0,0,0]) (14,0,0,0,0,0,0,6,0)=(b,[E3 (0,k) (0,k) (0,1),E3 (0,k) (0,k) (0,1),E3 (0,k) (k,k) (0,1),E3 (0,k - 1) (k,k) (0,1),E3 (0,k - 1) (k,k) (1,1),E3 (1,k) (k,k) (1,1),E3 (k,k) (k,k) (0,1)],[6,0,0,0,0,0,0]):=
 Zss 0 (X:=Zf) (p6) (ZCn)
theorem ZZ5 (h1:6≤k) (h2:k≤1000000):Za5 (lpU k) 0 [] (Zv (lpU k)) (lpC k) [E3 (0,k) (0,k) (0,1),E3 (0,k - 1) (0,k) (0,1),E3 (0,k - 1) (k,k) (0,1),E3 (0,k - 1) (k,k) (0,1),E3 (0,k - 1) (k,k) (1,1),E3 (1,k) (k,k) (1,1),Zf] [6,0,0,0,0,0,0]=(true,[E3 (0,k) (0,k) (0,1),E3 (0,k) (0,k) (0,1),E3 (0,k) (k,k) (0,1),E3 (0,k - 1) (k,k) (0,1),E3 (0,k - 1) (k,k) (1,1),E3 (1,k) (k,k) (1,1),E3 (k,k) (k,k) (0,1)],[6,0,0,0,0,0,0]):=ZpH rfl (ZXS h1 h2 _) (ZXT h1 h2 _) (ZXU h1 h2 _) (ZXV h1 h2 _) (ZXW h1 h2 _) (ZXX h1 h2 _) (ZXY h1 h2 _)
theorem ZXZ (h1:6≤k) (h2:k≤1000000) (b:Bool):nodeC (lpU k) 0 [] (Zv (lpU k)) 0 (b,[E3 (0,k) (0,k) (0,1),E3 (0,k) (0,k) (0,1),E3 (0,k) (k,k) (0,1),E3 (0,k - 1) (k,k) (0,1),E3 (0,k - 1) (k,k) (1,1),E3 (1,k) (k,k) (1,1),E3 (k,k) (k,k) (0,1)],[6,0,0,0,0,0,0]) (12,0,0,0,0,0,0,1,0)=(b,[E3 (0,k) (0,k) (0,1),E3 (0,k) (0,k) (0,1),E3 (0,k) (k,k) (0,1),E3 (0,k - 1) (k,k) (0,1),E3 (0,k - 1) (k,k) (1,1),E3 (1,k) (k,k) (1,1),E3 (k,k) (k,k) (0,1)],[6,0,0,0,0,0,0]):=
 Zss 0 (X:=E3 (0,k) (0,k) (0,1)) (p0) (ZlZ (fr:=0) (to:=1) (n:=0) (old:=E3 (0,k) (0,k) (0,1)) rfl rfl rfl (j3 (jnI (by omega) (by omega) (by omega) (by omega)) (jnI (by omega) (by omega) (by omega) (by omega)) (jnI (by omega) (by omega) (by omega) (by omega))) (by decide))
theorem ZX0 (h1:6≤k) (h2:k≤1000000) (b:Bool):nodeC (lpU k) 0 [] (Zv (lpU k)) 1 (b,[E3 (0,k) (0,k) (0,1),E3 (0,k) (0,k) (0,1),E3 (0,k) (k,k) (0,1),E3 (0,k - 1) (k,k) (0,1),E3 (0,k - 1) (k,k) (1,1),E3 (1,k) (k,k) (1,1),E3 (k,k) (k,k) (0,1)],[6,0,0,0,0,0,0]) (1,1,0,0,0,k,0,2,0)=(b,[E3 (0,k) (0,k) (0,1),E3 (0,k) (0,k) (0,1),E3 (0,k) (k,k) (0,1),E3 (0,k - 1) (k,k) (0,1),E3 (0,k - 1) (k,k) (1,1),E3 (1,k) (k,k) (1,1),E3 (k,k) (k,k) (0,1)],[6,0,0,0,0,0,0]):=
 Zss 0 (X:=E3 (0,k) (k,k) (0,1)) (p1) (ZlZ (fr:=1) (to:=2) (n:=0) (old:=E3 (0,k) (k,k) (0,1)) rfl rfl rfl (j3 (jnI (by omega) (by omega) (by omega) (by omega)) (jnI (by omega) (by omega) (by omega) (by omega)) (jnI (by omega) (by omega) (by omega) (by omega))) (by decide))
theorem ZX1 (h1:6≤k) (h2:k≤1000000) (b:Bool):nodeC (lpU k) 0 [] (Zv (lpU k)) 2 (b,[E3 (0,k) (0,k) (0,1),E3 (0,k) (0,k) (0,1),E3 (0,k) (k,k) (0,1),E3 (0,k - 1) (k,k) (0,1),E3 (0,k - 1) (k,k) (1,1),E3 (1,k) (k,k) (1,1),E3 (k,k) (k,k) (0,1)],[6,0,0,0,0,0,0]) (11,0,0,1,0,0,1,3,6)=(b,[E3 (0,k) (0,k) (0,1),E3 (0,k) (0,k) (0,1),E3 (0,k) (k,k) (0,1),E3 (0,k - 1) (k,k) (0,1),E3 (0,k - 1) (k,k) (1,1),E3 (1,k) (k,k) (1,1),E3 (k,k) (k,k) (0,1)],[6,0,0,0,0,0,0]):=
 ZYm (c1:=false) (c2:=false) (X:=E3 (0,k - 1) (k,k) (0,1)) (Y:=E3 (k,k) (k,k) (0,1)) (p2b (by omega) (by omega) (by omega) (by omega)) (ZlZ (fr:=2) (to:=3) (n:=0) (old:=E3 (0,k - 1) (k,k) (0,1)) rfl rfl rfl (j3 (jnI (by omega) (by omega) (by omega) (by omega)) (jnI (by omega) (by omega) (by omega) (by omega)) (jnI (by omega) (by omega) (by omega) (by omega))) (by decide)) (ZlZ (fr:=2) (to:=6) (n:=0) (old:=E3 (k,k) (k,k) (0,1)) rfl rfl rfl (j3 (jnI (by omega) (by omega) (by omega) (by omega)) (jnI (by omega) (by omega) (by omega) (by omega)) (jnI (by omega) (by omega) (by omega) (by omega))) (by decide)) (by cases b<;>rfl)
theorem ZX2 (h1:6≤k) (h2:k≤1000000) (b:Bool):nodeC (lpU k) 0 [] (Zv (lpU k)) 3 (b,[E3 (0,k) (0,k) (0,1),E3 (0,k) (0,k) (0,1),E3 (0,k) (k,k) (0,1),E3 (0,k - 1) (k,k) (0,1),E3 (0,k - 1) (k,k) (1,1),E3 (1,k) (k,k) (1,1),E3 (k,k) (k,k) (0,1)],[6,0,0,0,0,0,0]) (1,2,0,0,0,1,0,4,0)=(b,[E3 (0,k) (0,k) (0,1),E3 (0,k) (0,k) (0,1),E3 (0,k) (k,k) (0,1),E3 (0,k - 1) (k,k) (0,1),E3 (0,k - 1) (k,k) (1,1),E3 (1,k) (k,k) (1,1),E3 (k,k) (k,k) (0,1)],[6,0,0,0,0,0,0]):=
 Zss 0 (X:=E3 (0,k - 1) (k,k) (1,1)) (p3) (ZlZ (fr:=3) (to:=4) (n:=0) (old:=E3 (0,k - 1) (k,k) (1,1)) rfl rfl rfl (j3 (jnI (by omega) (by omega) (by omega) (by omega)) (jnI (by omega) (by omega) (by omega) (by omega)) (jnI (by omega) (by omega) (by omega) (by omega))) (by decide))
theorem ZX3 (h1:6≤k) (h2:k≤1000000) (b:Bool):nodeC (lpU k) 0 [] (Zv (lpU k)) 4 (b,[E3 (0,k) (0,k) (0,1),E3 (0,k) (0,k) (0,1),E3 (0,k) (k,k) (0,1),E3 (0,k - 1) (k,k) (0,1),E3 (0,k - 1) (k,k) (1,1),E3 (1,k) (k,k) (1,1),E3 (k,k) (k,k) (0,1)],[6,0,0,0,0,0,0]) (4,0,0,2,0,0,1,5,0)=(b,[E3 (0,k) (0,k) (0,1),E3 (0,k) (0,k) (0,1),E3 (0,k) (k,k) (0,1),E3 (0,k - 1) (k,k) (0,1),E3 (0,k - 1) (k,k) (1,1),E3 (1,k) (k,k) (1,1),E3 (k,k) (k,k) (0,1)],[6,0,0,0,0,0,0]):=
 Zss 0 (X:=E3 (1,k) (k,k) (1,1)) (p4 (by omega) (by omega) (by omega) (by omega) (by omega) (by omega)) (ZlZ (fr:=4) (to:=5) (n:=0) (old:=E3 (1,k) (k,k) (1,1)) rfl rfl rfl (j3 (jnI (by omega) (by omega) (by omega) (by omega)) (jnI (by omega) (by omega) (by omega) (by omega)) (jnI (by omega) (by omega) (by omega) (by omega))) (by decide))
theorem ZX4 (h1:6≤k) (h2:k≤1000000) (b:Bool):nodeC (lpU k) 0 [] (Zv (lpU k)) 5 (b,[E3 (0,k) (0,k) (0,1),E3 (0,k) (0,k) (0,1),E3 (0,k) (k,k) (0,1),E3 (0,k - 1) (k,k) (0,1),E3 (0,k - 1) (k,k) (1,1),E3 (1,k) (k,k) (1,1),E3 (k,k) (k,k) (0,1)],[6,0,0,0,0,0,0]) (12,0,0,0,0,0,0,0,0)=(b,[E3 (0,k) (0,k) (0,1),E3 (0,k) (0,k) (0,1),E3 (0,k) (k,k) (0,1),E3 (0,k - 1) (k,k) (0,1),E3 (0,k - 1) (k,k) (1,1),E3 (1,k) (k,k) (1,1),E3 (k,k) (k,k) (0,1)],[6,0,0,0,0,0,0]):=
 Zss 0 (X:=E3 (1,k) (k,k) (1,1)) (p5) (ZSn (fr:=5) (to:=0) (n:=6) (old:=E3 (0,k) (0,k) (0,1)) (J:=E3 (0,k) (0,k) (0,1)) rfl rfl rfl (j3 (jnI (by omega) (by omega) (by omega) (by omega)) (jnI (by omega) (by omega) (by omega) (by omega)) (jnI (by omega) (by omega) (by omega) (by omega))) (w3 (V4 (by omega) (by omega) (by omega) (by omega)) (V4 (by omega) (by omega) (by omega) (by omega)) (V4 (by omega) (by omega) (by omega) (by omega))) (by decide) (by decide))
theorem ZX5 (h1:6≤k) (h2:k≤1000000) (b:Bool):nodeC (lpU k) 0 [] (Zv (lpU k)) 6 (b,[E3 (0,k) (0,k) (0,1),E3 (0,k) (0,k) (0,1),E3 (0,k) (k,k) (0,1),E3 (0,k - 1) (k,k) (0,1),E3 (0,k - 1) (k,k) (1,1),E3 (1,k) (k,k) (1,1),E3 (k,k) (k,k) (0,1)],[6,0,0,0,0,0,0]) (14,0,0,0,0,0,0,6,0)=(b,[E3 (0,k) (0,k) (0,1),E3 (0,k) (0,k) (0,1),E3 (0,k) (k,k) (0,1),E3 (0,k - 1) (k,k) (0,1),E3 (0,k - 1) (k,k) (1,1),E3 (1,k) (k,k) (1,1),E3 (k,k) (k,k) (0,1)],[6,0,0,0,0,0,0]):=
 Zss 0 (X:=Zf) (p6) (ZCn)
theorem ZZ6 (h1:6≤k) (h2:k≤1000000):Za5 (lpU k) 0 [] (Zv (lpU k)) (lpC k) [E3 (0,k) (0,k) (0,1),E3 (0,k) (0,k) (0,1),E3 (0,k) (k,k) (0,1),E3 (0,k - 1) (k,k) (0,1),E3 (0,k - 1) (k,k) (1,1),E3 (1,k) (k,k) (1,1),E3 (k,k) (k,k) (0,1)] [6,0,0,0,0,0,0]=(false,[E3 (0,k) (0,k) (0,1),E3 (0,k) (0,k) (0,1),E3 (0,k) (k,k) (0,1),E3 (0,k - 1) (k,k) (0,1),E3 (0,k - 1) (k,k) (1,1),E3 (1,k) (k,k) (1,1),E3 (k,k) (k,k) (0,1)],[6,0,0,0,0,0,0]):=ZpH rfl (ZXZ h1 h2 _) (ZX0 h1 h2 _) (ZX1 h1 h2 _) (ZX2 h1 h2 _) (ZX3 h1 h2 _) (ZX4 h1 h2 _) (ZX5 h1 h2 _)
theorem ZZW:es0 (lpU k) (lpC k)=[E3 (0,0) (0,0) (0,0),Zf,Zf,Zf,Zf,Zf,Zf]:=rfl
theorem ZZX:ns0 (lpC k)=[0,0,0,0,0,0,0]:=rfl
theorem ZYa (h1:6≤k) (h2:k≤1000000):runC (lpU k) 0 [] (Zv (lpU k)) (lpC k) 100 (es0 (lpU k) (lpC k)) (ns0 (lpC k)) 0 false=([E3 (0,k) (0,k) (0,1),E3 (0,k) (0,k) (0,1),E3 (0,k) (k,k) (0,1),E3 (0,k - 1) (k,k) (0,1),E3 (0,k - 1) (k,k) (1,1),E3 (1,k) (k,k) (1,1),E3 (k,k) (k,k) (0,1)],[6,0,0,0,0,0,0],8,true):=by
 rw [ZZW,ZZX]
 refine (Zt9 (n:=99) (ZZZ h1 h2)).trans ?_
 refine (Zt9 (n:=98) (ZZ0 h1 h2)).trans ?_
 refine (Zt9 (n:=97) (ZZ1 h1 h2)).trans ?_
 refine (Zt9 (n:=96) (ZZ2 h1 h2)).trans ?_
 refine (Zt9 (n:=95) (ZZ3 h1 h2)).trans ?_
 refine (Zt9 (n:=94) (ZZ4 h1 h2)).trans ?_
 refine (Zt9 (n:=93) (ZZ5 h1 h2)).trans ?_
 refine (Zt9 (n:=92) (ZZ6 h1 h2)).trans ?_
 exact Z0m
theorem ZX8 (h1:6≤k) (h2:k≤1000000):gatC (lpU k) 0 [] (lpC k) [E3 (0,k) (0,k) (0,1),E3 (0,k) (0,k) (0,1),E3 (0,k) (k,k) (0,1),E3 (0,k - 1) (k,k) (0,1),E3 (0,k - 1) (k,k) (1,1),E3 (1,k) (k,k) (1,1),E3 (k,k) (k,k) (0,1)]=([],[],[]):=by
 have o0:oV (lpU k) 0 0 (E3 (0,k) (0,k) (0,1)) [] (12,0,0,0,0,0,0,1,0)=(E3 (0,k) (0,k) (0,1),Zf,[],[],[]):=p0
 have o1:oV (lpU k) 0 1 (E3 (0,k) (0,k) (0,1)) [] (1,1,0,0,0,k,0,2,0)=(E3 (0,k) (k,k) (0,1),Zf,[],[],[]):=p1
 have o2:oV (lpU k) 0 2 (E3 (0,k) (k,k) (0,1)) [] (11,0,0,1,0,0,1,3,6)=(E3 (0,k - 1) (k,k) (0,1),E3 (k,k) (k,k) (0,1),[],[],[]):=p2b (by omega) (by omega) (by omega) (by omega)
 have o3:oV (lpU k) 0 3 (E3 (0,k - 1) (k,k) (0,1)) [] (1,2,0,0,0,1,0,4,0)=(E3 (0,k - 1) (k,k) (1,1),Zf,[],[],[]):=p3
 have o4:oV (lpU k) 0 4 (E3 (0,k - 1) (k,k) (1,1)) [] (4,0,0,2,0,0,1,5,0)=(E3 (1,k) (k,k) (1,1),Zf,[],[],[]):=p4 (by omega) (by omega) (by omega) (by omega) (by omega) (by omega)
 have o5:oV (lpU k) 0 5 (E3 (1,k) (k,k) (1,1)) [] (12,0,0,0,0,0,0,0,0)=(E3 (1,k) (k,k) (1,1),Zf,[],[],[]):=p5
 have o6:oV (lpU k) 0 6 (E3 (k,k) (k,k) (0,1)) [] (14,0,0,0,0,0,0,6,0)=(Zf,Zf,[],[],[]):=p6
 show gatN 0 6 (gatN 0 5 (gatN 0 4 (gatN 0 3 (gatN 0 2 (gatN 0 1 (gatN 0 0 ([],[],[]) (oV (lpU k) 0 0 (E3 (0,k) (0,k) (0,1)) [] (12,0,0,0,0,0,0,1,0))) (oV (lpU k) 0 1 (E3 (0,k) (0,k) (0,1)) [] (1,1,0,0,0,k,0,2,0))) (oV (lpU k) 0 2 (E3 (0,k) (k,k) (0,1)) [] (11,0,0,1,0,0,1,3,6))) (oV (lpU k) 0 3 (E3 (0,k - 1) (k,k) (0,1)) [] (1,2,0,0,0,1,0,4,0))) (oV (lpU k) 0 4 (E3 (0,k - 1) (k,k) (1,1)) [] (4,0,0,2,0,0,1,5,0))) (oV (lpU k) 0 5 (E3 (1,k) (k,k) (1,1)) [] (12,0,0,0,0,0,0,0,0))) (oV (lpU k) 0 6 (E3 (k,k) (k,k) (0,1)) [] (14,0,0,0,0,0,0,6,0))=_
 rw [o0,o1,o2,o3,o4,o5,o6]
 rfl
theorem ZZY (h1:0≤k) (h2:k≤1000000):unitOK (lpU k):=by
 refine ZU1 (by rfl) (fun x hx=>by rw [List.mem_singleton.1 hx];rfl) fun c hc x hx=>?_
 rw [List.mem_singleton.1 hc] at hx
 simp only [lpC,List.mem_cons,List.not_mem_nil,or_false] at hx
 rcases hx with rfl | rfl | rfl | rfl | rfl | rfl | rfl
 ·rfl
 ·exact Jw.2 (by show -2147483648≤k∧k≤2147483647;omega)
 ·rfl
 ·rfl
 ·rfl
 ·rfl
 ·rfl
theorem ZX9 (h1:6≤k) (h2:k≤1000000):resC (lpU k) 0 [] (lpC k)=([E3 (0,k) (0,k) (0,1),E3 (0,k) (0,k) (0,1),E3 (0,k) (k,k) (0,1),E3 (0,k - 1) (k,k) (0,1),E3 (0,k - 1) (k,k) (1,1),E3 (1,k) (k,k) (1,1),E3 (k,k) (k,k) (0,1)],[],[],[],8,true):=by
 unfold resC
 rw [ZYa h1 h2]
 dsimp only
 rw [ZX8 h1 h2]
end
section
theorem ZZ7:resC (lpU 0) 0 [] (lpC 0)=([E3 (0,0) (0,0) (0,0),E3 (0,0) (0,0) (0,0),E3 (0,0) (0,0) (0,0),Zf,Zf,Zf,E3 (0,0) (0,0) (0,0)],[],[],[],2,true):=by kernel_rfl
theorem ZZ8:resC (lpU 1) 0 [] (lpC 1)=([E3 (0,1) (0,1) (0,1),E3 (0,1) (0,1) (0,1),E3 (0,1) (1,1) (0,1),E3 (0,0) (1,1) (0,1),E3 (0,0) (1,1) (1,1),E3 (1,1) (1,1) (1,1),E3 (1,1) (1,1) (0,1)],[],[],[],3,true):=by kernel_rfl
theorem ZZ9:resC (lpU 2) 0 [] (lpC 2)=([E3 (0,2) (0,2) (0,1),E3 (0,2) (0,2) (0,1),E3 (0,2) (2,2) (0,1),E3 (0,1) (2,2) (0,1),E3 (0,1) (2,2) (1,1),E3 (1,2) (2,2) (1,1),E3 (2,2) (2,2) (0,1)],[],[],[],4,true):=by kernel_rfl
theorem Z0a:resC (lpU 3) 0 [] (lpC 3)=([E3 (0,3) (0,3) (0,1),E3 (0,3) (0,3) (0,1),E3 (0,3) (3,3) (0,1),E3 (0,2) (3,3) (0,1),E3 (0,2) (3,3) (1,1),E3 (1,3) (3,3) (1,1),E3 (3,3) (3,3) (0,1)],[],[],[],5,true):=by kernel_rfl
theorem Z0b:resC (lpU 4) 0 [] (lpC 4)=([E3 (0,4) (0,4) (0,1),E3 (0,4) (0,4) (0,1),E3 (0,4) (4,4) (0,1),E3 (0,3) (4,4) (0,1),E3 (0,3) (4,4) (1,1),E3 (1,4) (4,4) (1,1),E3 (4,4) (4,4) (0,1)],[],[],[],6,true):=by kernel_rfl
theorem Z0c:resC (lpU 5) 0 [] (lpC 5)=([E3 (0,5) (0,5) (0,1),E3 (0,5) (0,5) (0,1),E3 (0,5) (5,5) (0,1),E3 (0,4) (5,5) (0,1),E3 (0,4) (5,5) (1,1),E3 (1,5) (5,5) (1,1),E3 (5,5) (5,5) (0,1)],[],[],[],7,true):=by kernel_rfl
end
theorem ZX6 {k:Int} (h1:0≤k) (h2:k≤1000000):∃ a b c d e f v w r,resC (lpU k) 0 [] (lpC k)=([a,b,c,d,e,f,E3 (k,k) v w],[],[],[],r,true):=by
 by_cases h6:6≤k
 ·exact ⟨_,_,_,_,_,_,_,_,_,ZX9 h6 h2⟩
 have:k=0∨k=1∨k=2∨k=3∨k=4∨k=5:=by omega
 rcases this with rfl | rfl | rfl | rfl | rfl | rfl
 ·exact ⟨_,_,_,_,_,_,_,_,_,ZZ7⟩
 ·exact ⟨_,_,_,_,_,_,_,_,_,ZZ8⟩
 ·exact ⟨_,_,_,_,_,_,_,_,_,ZZ9⟩
 ·exact ⟨_,_,_,_,_,_,_,_,_,Z0a⟩
 ·exact ⟨_,_,_,_,_,_,_,_,_,Z0b⟩
 ·exact ⟨_,_,_,_,_,_,_,_,_,Z0c⟩
theorem ZX7 {k:Int} (h1:0≤k) (h2:k≤1000000):∃ a b c d e f v w r,Zg4 (lpU k) 0 []=some ([a,b,c,d,e,f,E3 (k,k) v w],[],[],[],r,true):=by
 have hu:=ZZY h1 h2
 obtain ⟨a,b,c,d,e,f,v,w,r,h⟩:=ZX6 h1 h2
 obtain ⟨g,_⟩:=ZrE (u:=lpU k) (t:=0) (l:=[]) (c:=lpC k) hu (by decide) ZUV (by decide) rfl
 exact ⟨a,b,c,d,e,f,v,w,r,by rw [g,Z0l hu (by decide) ZUV (by decide) rfl,h]⟩
theorem Z0O (n:Int):Zk3 n=some true:=by
 unfold Zk3
 by_cases h1:n<0
 ·rw [dT0 h1];rfl
 by_cases h2:n>1000000
 ·rw [dF0 h1,dT0 h2];rfl
 rw [dF0 h1,dF0 h2]
 simp only [cond_false]
 show Za (Zg4 (lpU n) 0 []) none _=_
 obtain ⟨a,b,c,d,e,f,v,w,r,h⟩:=ZX7 (k:=n) (by omega) (by omega)
 rw [h]
 have q:(n==n)=true:=by simp
 show (bif (n==n&&n==n) then Za (KI ()) none fun d7=>some d7 else some false)=_
 rw [q]
 show Za Zh6 none _=_
 rw [ZJn]
 rfl
end
section
section
variable [RT]
theorem Z1f {sh:List Sh} {G:Ke sh→Option Bool} {args:List AV} {x:Ke sh} (h1:rds sh args=some x) (h2:AV.idsL args=[]) (h3:G x=some true) :
  ∃ fb,ex ((conP true sh (.dat .bool) G args).bind (finP true)) false ⟨[],0⟩ ⟨[],[]⟩=some (.bool true,⟨[],0⟩,fb):=by
 refine ⟨⟨[],[]⟩,?_⟩
 unfold ex conP
 rw [Zo2 true args _ h2,h1]
 simp only [Prog.bind,run,Option.bind_some]
 exact (congrArg (fun o=>Option.bind o _) h3).trans (ZKs _ rfl _ _ _)
end
end
theorem ZsM:reachBytes<9223372036854775807:=by decide
theorem Z1z {e:Ty} {l:List (D e)} (h:ZlN reachBytes (.sl e) l):List.length (α:=D e) l<9223372036854775807:=Nat.lt_of_le_of_lt h.1 ZsM
theorem Z03 {u:U} (h:ZlN reachBytes tU u):sizeU u:=
 ⟨Nat.lt_of_le_of_lt h.1.1 ZsM,Nat.lt_of_le_of_lt h.2.1.1 ZsM,Nat.lt_of_le_of_lt h.2.2.2.1 ZsM,fun c hc=>Nat.lt_of_le_of_lt (h.2.2.2.2 c hc).2.1 ZsM⟩
end
end Go.Proofs.YtbdcblpjemmipaaGreat.Ex
