/- A part of the proofs of what is known of threads: HG. -/
import Derived.Test.YtbdcblpjemmipaaGreatHF
namespace Go.Proofs.YtbdcblpjemmipaaGreat.Ex
open Go.Proofs
set_option maxRecDepth 100000
set_option maxHeartbeats 4000000
set_option linter.unusedVariables false
set_option linter.unusedSimpArgs false
set_option linter.unusedSectionVars false
noncomputable section
def Zbe  (s1:(List Int)) (i:Nat) (s0:Int) (d:Int):Option (Int⊕Qx):=
 bif decide (d≥0) then
  bif decide (d≤30) then
  bif decide (IntKind.u64.wrap d<0) then
  none
 else some (.inl (IntKind.i64.wrap (↑(BitVec.ofInt IntKind.i64.bits s0 &&& ~~~BitVec.ofInt IntKind.i64.bits (IntKind.i64.wrap (1*2 ^ Min.min (IntKind.u64.wrap d).toNat IntKind.i64.bits))).toNat:Int)))
 else some (.inl (s0))
 else some (.inl (s0))
def ZgD  (s1:(List Int)) (s0:Int):Option Qx:=
 some s0
abbrev Zyu  (s1:(List Int)) (i:Nat) (s:Int):KF:=(s,s1,(i:Int))
def ZgI  (s1:(List Int)) (s:Int):Option Qx:=Zp (fun i s d=>Zbe  s1 i s d) (fun s=>ZgD  s1 s) 0 s1 s
theorem Zyq  (s1:(List Int)) (s:Int) (hl:s1.length<9223372036854775807):HR (s,s1,0)=ZgI  s1 s:=by
 unfold HR ZgI
 refine Zs s1 (Zyu  s1) _ _ ?_ ?_ s (by unfold Zl;omega)
 ·intro i s d hi hd
  have e1:decide ((i:Int)<(s1.length:Int))=true:=dT0 (by omega)
  have e2:decide (0≤(i:Int))=true:=dT0 (by omega)
  have e3:Int.toNat (i:Int)=i:=tN0 i
  have e4:=Zq hi (Nat.le_of_lt hl)
  show Y7 (s) (s1) ((i:Int))=upd _ (Zbe  s1 i s d)
  unfold Y7 Zbe
  simp only [e1,e2,e3,e4,hd,cond_true,cond_false,Zb,ZC,ZF,ZD,ZI,ZJ,ZE]
 ·intro s
  have e1:decide ((s1.length:Int)<(s1.length:Int))=false:=dF0 (by omega)
  show Y7 (s) (s1) ((s1.length:Int))=_
  unfold Y7 ZgD
  rw [e1]
  rfl
def ZQk:List Sh:=[.dat (.int .i64),.dat (.sl (.int .i64))]
def ZTT:List Con:=[⟨200,ZoT,ZuO⟩]
def ZzE (a0:Int) (a1:List Int):Option Int:=Za (Ze7 (a1,())) none fun d3=>some (IntKind.i64.wrap (↑(BitVec.ofInt IntKind.i64.bits a0 ||| BitVec.ofInt IntKind.i64.bits d3).toNat:Int))
def Yz (x:(Int×((List Int)×Unit))):Option Int:=ZzE x.1 x.2.1
def ZEM:=conP true ZQk (.dat (.int .i64)) Yz
theorem ZQU:Zf Tryz.prog 177 ZEM:=Ze (calU ZTT [] 40 1048576 8 177) true (by rfl) (by rfl) (fun x r e=>(Zk _ _ _ _ _ _ _).trans ((show _=Yz x by kernel_rfl).trans e)) (.inl rfl)
def ZK0:List Sh:=[.dat (.int .i64),.dat (.sl (.int .i64))]
def ZNa:List Con:=[⟨200,ZoT,ZuO⟩]
def Zsw (a0:Int) (a1:List Int):Option Int:=Za (Ze7 (a1,())) none fun d3=>some (IntKind.i64.wrap (↑(BitVec.ofInt IntKind.i64.bits a0 &&& ~~~BitVec.ofInt IntKind.i64.bits d3).toNat:Int))
def QN (x:(Int×((List Int)×Unit))):Option Int:=Zsw x.1 x.2.1
def ZwG:=conP true ZK0 (.dat (.int .i64)) QN
theorem ZLL:Zf Tryz.prog 178 ZwG:=Ze (calU ZNa [] 40 1048576 8 178) true (by rfl) (by rfl) (fun x r e=>(Zk _ _ _ _ _ _ _).trans ((show _=QN x by kernel_rfl).trans e)) (.inl rfl)
def HE (b0 b0_1:Int) (s7:List I) (i:Nat) (b1 b1_1:Int) (d:I):Option ((Int×Int)⊕J2):=
 bif decide (d.1>d.2) then
  some (.inl (b1,b1_1))
 else bif decide (b1>b1_1) then
  some (.inl (d.1,d.2))
 else some (.inl (if d.1<b1 then d.1 else b1,if d.2>b1_1 then d.2 else b1_1))
def ZlL (b0 b0_1:Int) (s7:List I) (b1 b1_1:Int):Option J2:=
 some (b0,b0_1,b1,b1_1)
abbrev ZGn (b0 b0_1:Int) (s7:List I) (i:Nat) (s:Int×Int):VD:=(s7,(s7.length:Int),(i:Int),b0,b0_1,s.1,s.2)
def Zl1 (b0 b0_1:Int) (s7:List I) (s:Int×Int):Option J2:=Zp (fun i s d=>HE b0 b0_1 s7 i s.1 s.2 d) (fun s=>ZlL b0 b0_1 s7 s.1 s.2) 0 s7 s
theorem ZGb (b0 b0_1:Int) (s7:List I) (s:Int×Int) (hl:s7.length<9223372036854775807):ZcC (s7,(s7.length:Int),0,b0,b0_1,s.1,s.2)=Zl1 b0 b0_1 s7 s:=by
 unfold ZcC Zl1
 refine Zs s7 (ZGn b0 b0_1 s7) _ _ ?_ ?_ s (by unfold Zl;omega)
 ·intro i s d hi hd
  have e1:decide ((i:Int)<(s7.length:Int))=true:=dT0 (by omega)
  have e2:decide (0≤(i:Int))=true:=dT0 (by omega)
  have e3:Int.toNat (i:Int)=i:=tN0 i
  have e4:=Zq hi (Nat.le_of_lt hl)
  show ZbH (s7) ((s7.length:Int)) ((i:Int)) (b0) (b0_1) (s.1) (s.2)=upd _ (HE b0 b0_1 s7 i s.1 s.2 d)
  unfold ZbH HE
  simp only [e1,e2,e3,e4,hd,cond_true,cond_false,Zb,ZC,ZF,ZD,ZI,ZJ,ZE]
 ·intro s
  have e1:decide ((s7.length:Int)<(s7.length:Int))=false:=dF0 (by omega)
  show ZbH (s7) ((s7.length:Int)) ((s7.length:Int)) (b0) (b0_1) (s.1) (s.2)=_
  unfold ZbH ZlL
  rw [e1]
  rfl
def ZRO:List Sh:=[.dat (.sl (.int .i64))]
def Zw7:Nat→List Nat:=fun c=>bif c.beq 0 then [5,6,7] else [2]
def ZKN:List Con:=[]
def Zi9:StS:=⟨[(5,.sl (.int .i64)),(6,.int .i64),(7,.int .i64)],[],0⟩
def ZbW:StS:=⟨[(2,.undef)],[],0⟩
def ZbX:StS:=⟨[(2,.bool)],[],0⟩
abbrev ZaV:=((List Int)×Int×Int)
def ZHr:StD Zi9→ZaV:=fun ((a,b,c,_),_)=>(a,b,c)
def ZIR:ZaV→StD Zi9:=fun (a,b,c)=>((a,b,c,()),())
abbrev KI:=Unit
def ZYa (d:StD ZbW):KI:=()
def Zlc (x:KI):StD ZbW:=(((),()),())
abbrev KJ:=Bool
def ZYb (d:StD ZbX):KJ:=(d.1.1)
def Zld (x:KJ):StD ZbX:=((x,()),())
def ZcY (s5:List Int) (s6 s7:Int):Option (((List Int)×Int×Int)⊕(Unit⊕Bool)):=bif decide (s7<s6) then bif decide (0≤s7) then Za s5[s7.toNat]? none fun d5=>bif decide (d5 < -2147483648) then some (.inr (.inr false)) else bif decide (d5>2147483647) then some (.inr (.inr false)) else some (.inl (s5,s6,IntKind.i64.wrap (s7+1))) else none else some (.inr (.inl PUnit.unit))
def Zuk:ZaV→Option (ZaV⊕(KI⊕KJ)):=fun (a,b,c)=>ZcY a b c
def ZdR (x:ZaV):Option (KI⊕KJ):=Zh Zuk Zl x
def Zy4:Nat→Tm→Prog (Nat×Tm):=(varP 0 (fun T h=>(rdS Zi9 T h).map ZHr) ZdR (fun y=>.alt y (altE 2 ZbW Zlc) (altE 1 ZbX Zld)) (fun _ _=>.fail))
def ZLq:Lpc:=⟨69,0,18,(fun base T=>.norm base (Zw7 0) T (Zy4 base)),by kernel_rfl,by kernel_rfl,(loopU ZKN [] 40 1048576 8 (keep:=Zw7) (q:=Zy4) (by kernel_rfl) (Zv (s:=Zi9) (un:=ZIR) (by rfl) (fun _=>rfl) (ZW (Zn (s:=ZbW) (un:=Zlc) (flat:=ZYa) (by rfl) (fun _=>rfl)) (Zn (s:=ZbX) (un:=Zld) (flat:=ZYb) (by rfl) (fun _=>rfl))) (step:=Zuk) (fun _=>by kernel_rfl) (fun _ _ e=>⟨_,e⟩) (ZV (Zm 2 ZbW Zlc) (Zm 1 ZbX Zld)) (ZB.fail _ _)))⟩
def ZCY (a0:List Int):Option Bool:=Za (ZdR (a0,(a0.length:Int),0)) none fun d3=>Sum.elim (fun e4=>some true) (fun e4=>some e4) d3
def Zg9 (x:(List Int)×Unit):Option Bool:=ZCY x.1
def ZwH:=conP true ZRO (.dat .bool) Zg9
theorem ZIt:Zf Tryz.prog 69 ZwH:=Ze (calU ZKN [ZLq] 40 1048576 8 69) true (by rfl) (by rfl) (fun x r e=>(Zk _ _ _ _ _ _ _).trans ((show _=Zg9 x by kernel_rfl).trans e)) (.inl rfl)
def ZX5:List Sh:=[.dat (.sl (.int .i64))]
def ZAU:Nat→List Nat:=fun c=>bif c.beq 0 then [2,3,7,8,9] else [2,3]
def ZP1:List Con:=[⟨110,Yp,HW⟩,⟨69,ZwH,ZIt⟩,⟨111,HU,W4⟩]
def ZmA:StS:=⟨[(2,.ptr 0 0),(3,.ptr 1 0),(7,.sl (.int .i64)),(8,.int .i64),(9,.int .i64)],[(0,.box [.int .i64,.int .i64]),(1,.box [.int .i64,.int .i64])],2⟩
def Zd7:StS:=⟨[(2,.ptr 0 0),(3,.ptr 1 0)],[(0,.box [.int .i64,.int .i64]),(1,.box [.int .i64,.int .i64])],2⟩
abbrev Zdq:=((List Int)×Int×Int×Int×Int×Int×Int)
def ZLi:StD ZmA→Zdq:=fun ((_,_,a,b,c,_),((d,e,_),(f,g,_),_))=>(a,b,c,d,e,f,g)
def ZLT:Zdq→StD ZmA:=fun (a,b,c,d,e,f,g)=>(((),(),a,b,c,()),((d,e,()),(f,g,()),()))
abbrev Hf:=(Int×Int×Int×Int)
def ZZM:StD Zd7→Hf:=fun ((_,_,_),((a,b,_),(c,d,_),_))=>(a,b,c,d)
def Znr:Hf→StD Zd7:=fun (a,b,c,d)=>(((),(),()),((a,b,()),(c,d,()),()))
def ZfF (s7:List Int) (s8 s9 b0 b0_1 b1 b1_1:Int):Option (((List Int)×Int×Int×Int×Int×Int×Int)⊕(Int×Int×Int×Int)):=bif decide (s9<s8) then bif decide (0≤s9) then Za s7[s9.toNat]? none fun d9=>Za (Zg9 ([d9],())) none fun d10=>bif d10 then Za (ZM ([(b1,b1_1),(d9,d9)],())) none fun d11=>some (.inl (s7,s8,IntKind.i64.wrap (s9+1),b0,b0_1,d11.1,d11.2)) else some (.inl (s7,s8,IntKind.i64.wrap (s9+1),b0,b0_1,b1,b1_1)) else none else some (.inr (b0,b0_1,b1,b1_1))
def ZxV:Zdq→Option (Zdq⊕Hf):=fun (a,b,c,d,e,f,g)=>ZfF a b c d e f g
def Zhh (x:Zdq):Option Hf:=Zh ZxV Zl x
def ZE0:Nat→Tm→Prog (Nat×Tm):=(varP 0 (fun T h=>(rdS ZmA T h).map ZLi) Zhh (altE 2 Zd7 Znr) (fun _ _=>.fail))
def ZOg:Lpc:=⟨79,0,24,(fun base T=>.norm base (ZAU 0) T (ZE0 base)),by kernel_rfl,by kernel_rfl,(loopU ZP1 [] 40 1048576 8 (keep:=ZAU) (q:=ZE0) (by kernel_rfl) (Zv (s:=ZmA) (un:=ZLT) (by rfl) (fun _=>rfl) (Zn (s:=Zd7) (un:=Znr) (flat:=ZZM) (by rfl) (fun _=>rfl)) (step:=ZxV) (fun _=>by kernel_rfl) (fun _ _ e=>⟨_,e⟩) (Zm 2 Zd7 Znr) (ZB.fail _ _)))⟩
def ZLm (a0:List Int):Option I:=Za (Zhh (a0,(a0.length:Int),0,0,0,1,0)) none fun d3=>some (d3.2.2.1,d3.2.2.2)
def Zo8 (x:(List Int)×Unit):Option I:=ZLm x.1
def ZCn:=conP true ZX5 (.dat tI) Zo8
theorem ZM3:Zf Tryz.prog 79 ZCn:=Ze (calU ZP1 [ZOg] 40 1048576 8 79) true (by rfl) (by rfl) (fun x r e=>(Zk _ _ _ _ _ _ _).trans ((show _=Zo8 x by kernel_rfl).trans e)) (.inl rfl)
def Zkw (b0 b0_1:Int) (s7:List Int) (i:Nat) (b1 b1_1 d:Int):Option ((Int×Int)⊕Hf):=
 Za (Zg9 ([d],())) (none) fun d10=>
  bif d10 then
  Za (ZM ([(b1,b1_1),(d,d)],())) (none) fun d11=>
  some (.inl (d11.1,d11.2))
 else some (.inl (b1,b1_1))
def Zpc (b0 b0_1:Int) (s7:List Int) (b1 b1_1:Int):Option Hf:=
 some (b0,b0_1,b1,b1_1)
abbrev ZLI (b0 b0_1:Int) (s7:List Int) (i:Nat) (s:Int×Int):Zdq:=(s7,(s7.length:Int),(i:Int),b0,b0_1,s.1,s.2)
def Zpl (b0 b0_1:Int) (s7:List Int) (s:Int×Int):Option Hf:=Zp (fun i s d=>Zkw b0 b0_1 s7 i s.1 s.2 d) (fun s=>Zpc b0 b0_1 s7 s.1 s.2) 0 s7 s
theorem ZLG (b0 b0_1:Int) (s7:List Int) (s:Int×Int) (hl:s7.length<9223372036854775807):Zhh (s7,(s7.length:Int),0,b0,b0_1,s.1,s.2)=Zpl b0 b0_1 s7 s:=by
 unfold Zhh Zpl
 refine Zs s7 (ZLI b0 b0_1 s7) _ _ ?_ ?_ s (by unfold Zl;omega)
 ·intro i s d hi hd
  have e1:decide ((i:Int)<(s7.length:Int))=true:=dT0 (by omega)
  have e2:decide (0≤(i:Int))=true:=dT0 (by omega)
  have e3:Int.toNat (i:Int)=i:=tN0 i
  have e4:=Zq hi (Nat.le_of_lt hl)
  show ZfF (s7) ((s7.length:Int)) ((i:Int)) (b0) (b0_1) (s.1) (s.2)=upd _ (Zkw b0 b0_1 s7 i s.1 s.2 d)
  unfold ZfF Zkw
  simp only [e1,e2,e3,e4,hd,cond_true,cond_false,Zb,ZC,ZF,ZD,ZI,ZJ,ZE]
 ·intro s
  have e1:decide ((s7.length:Int)<(s7.length:Int))=false:=dF0 (by omega)
  show ZfF (s7) ((s7.length:Int)) ((s7.length:Int)) (b0) (b0_1) (s.1) (s.2)=_
  unfold ZfF Zpc
  rw [e1]
  rfl
def Zhy  (s5:(List Int)) (i:Nat)  (d:Int):Option (Unit⊕(KI⊕KJ)):=
 bif decide (d < -2147483648) then
  some (.inr (.inr false))
 else bif decide (d>2147483647) then
  some (.inr (.inr false))
 else some (.inl ())
def ZmT  (s5:(List Int)):Option (KI⊕KJ):=
 some (.inl PUnit.unit)
abbrev ZIo  (s5:(List Int)) (i:Nat) (s:Unit):ZaV:=(s5,(s5.length:Int),(i:Int))
def Znn  (s5:(List Int)) (s:Unit):Option (KI⊕KJ):=Zp (fun i s d=>Zhy  s5 i  d) (fun s=>ZmT  s5 ) 0 s5 s
theorem ZIk  (s5:(List Int)) (s:Unit) (hl:s5.length<9223372036854775807):ZdR (s5,(s5.length:Int),0)=Znn  s5 s:=by
 unfold ZdR Znn
 refine Zs s5 (ZIo  s5) _ _ ?_ ?_ s (by unfold Zl;omega)
 ·intro i s d hi hd
  have e1:decide ((i:Int)<(s5.length:Int))=true:=dT0 (by omega)
  have e2:decide (0≤(i:Int))=true:=dT0 (by omega)
  have e3:Int.toNat (i:Int)=i:=tN0 i
  have e4:=Zq hi (Nat.le_of_lt hl)
  show ZcY (s5) ((s5.length:Int)) ((i:Int))=upd _ (Zhy  s5 i  d)
  unfold ZcY Zhy
  simp only [e1,e2,e3,e4,hd,cond_true,cond_false,Zb,ZC,ZF,ZD,ZI,ZJ,ZE]
 ·intro s
  have e1:decide ((s5.length:Int)<(s5.length:Int))=false:=dF0 (by omega)
  show ZcY (s5) ((s5.length:Int)) ((s5.length:Int))=_
  unfold ZcY ZmT
  rw [e1]
  rfl
def ZRN:List Sh:=[.dat tI,.dat tI]
def ZVS:List Con:=[⟨153,Km,YC⟩,⟨110,Yp,HW⟩]
def ZCX (a0 a1:I):Option I:=bif decide (a0.1>a0.2) then some (1,0) else bif decide (a1.1>a1.2) then some (1,0) else bif decide ((if a1.1>a0.1 then a1.1 else a0.1)>if a1.2<a0.2 then a1.2 else a0.2) then some (1,0) else some (if a1.1>a0.1 then a1.1 else a0.1,if a1.2<a0.2 then a1.2 else a0.2)
def ZH (x:I×(I×Unit)):Option I:=ZCX x.1 x.2.1
def ZmO:=conP true ZRN (.dat tI) ZH
theorem Zq0:Zf Tryz.prog 174 ZmO:=Ze (calU ZVS [] 40 1048576 8 174) true (by rfl) (by rfl) (fun x r e=>(Zk _ _ _ _ _ _ _).trans ((show _=ZH x by kernel_rfl).trans e)) (.inl rfl)
def ZKe:List Sh:=[]
def ZNb:List Con:=[]
def ZPs:Option I:=some (-2147483648,2147483647)
theorem ZVH:evGX (cxU ZNb [] 40 1048576) keeps 8 130 ZKe (.dat tI) (():Unit)=ZPs:=by kernel_rfl
def ZZj (x:Unit):Option I:=ZPs
def Zs6:=conP true ZKe (.dat tI) ZZj
theorem Zz6:Zf Tryz.prog 130 Zs6:=Ze (calU ZNb [] 40 1048576 8 130) true (by rfl) (by rfl) (fun x r e=>(Zk _ _ _ _ _ _ _).trans ((ZVH ).trans e)) (.inl rfl)
def ZUE:List Sh:=[.dat tI,.dat tI]
def ZYQ:List Con:=[⟨153,Km,YC⟩]
def ZHy (a0 a1:I):Option Bool:=bif decide (a0.1>a0.2) then some true else bif decide (a0.1≥a1.1) then some (decide (a0.2≤a1.2)) else some false
def QB (x:I×(I×Unit)):Option Bool:=ZHy x.1 x.2.1
def Zov:=conP true ZUE (.dat .bool) QB
theorem Zti:Zf Tryz.prog 126 Zov:=Ze (calU ZYQ [] 40 1048576 8 126) true (by rfl) (by rfl) (fun x r e=>(Zk _ _ _ _ _ _ _).trans ((show _=QB x by kernel_rfl).trans e)) (.inl rfl)
def ZJh:List Sh:=[.dat tI,.dat tI]
def ZoC:Nat→List Nat:=fun c=>bif c.beq 0 then [2,3,4,6,7,15,16,17] else [4,6,7]
def ZxS:List Con:=[⟨110,Yp,HW⟩,⟨174,ZmO,Zq0⟩,⟨153,Km,YC⟩,⟨130,Zs6,Zz6⟩,⟨111,HU,W4⟩,⟨126,Zov,Zti⟩]
def Zbf:StS:=⟨[(2,.ptr 0 0),(3,.ptr 1 0),(4,.ptr 2 0),(6,.ptr 3 0),(7,.bool),(15,.row 4),(16,.int .i64),(17,.int .i64)],[(0,.box [.int .i64,.int .i64]),(1,.box [.int .i64,.int .i64]),(2,.box [.int .i64,.int .i64]),(3,.box [.int .i64,.int .i64]),(4,.row tI)],5⟩
def KW:StS:=⟨[(4,.ptr 0 0),(6,.ptr 1 0),(7,.bool)],[(0,.box [.int .i64,.int .i64]),(1,.box [.int .i64,.int .i64])],2⟩
abbrev JV:=(Bool×Int×Int×Int×Int×Int×Int×Int×Int×Int×Int×(List I))
def ZwR:StD Zbf→JV:=fun ((_,_,_,_,a,_,b,c,_),((d,e,_),(f,g,_),(h,i,_),(j,k,_),l,_))=>(a,b,c,d,e,f,g,h,i,j,k,l)
def Zyf:JV→StD Zbf:=fun (a,b,c,d,e,f,g,h,i,j,k,l)=>(((),(),(),(),a,(),b,c,()),((d,e,()),(f,g,()),(h,i,()),(j,k,()),l,()))
abbrev Qo:=(Bool×Int×Int×Int×Int)
def ZQI:StD KW→Qo:=fun ((_,_,a,_),((b,c,_),(d,e,_),_))=>(a,b,c,d,e)
def ZdQ:Qo→StD KW:=fun (a,b,c,d,e)=>(((),(),a,()),((b,c,()),(d,e,()),()))
def Ys (s7:Bool) (s16 s17 b0 b0_1 b1 b1_1 b2 b2_1 b3 b3_1:Int) (b4:List I):Option ((Bool×Int×Int×Int×Int×Int×Int×Int×Int×Int×Int×(List I))⊕(Bool×Int×Int×Int×Int)):=bif decide (s17<s16) then bif decide (0≤s17) then Za b4[s17.toNat]? none fun d14=>Za b4[s17.toNat]? none fun d15=>Za (ZH ((b1,b1_1),d15,())) none fun d16=>bif !decide (d16.1>d16.2) then bif decide (d16.1=0) then none else bif decide (d16.2=0) then none else bif decide (d16.1=0) then none else bif decide (d16.2=0) then none else Za (ZH ((if IntKind.i64.wrap (b0_1.tdiv d16.2)<if IntKind.i64.wrap (b0_1.tdiv d16.1)<if IntKind.i64.wrap (b0.tdiv d16.2)<IntKind.i64.wrap (b0.tdiv d16.1) then IntKind.i64.wrap (b0.tdiv d16.2) else IntKind.i64.wrap (b0.tdiv d16.1) then IntKind.i64.wrap (b0_1.tdiv d16.1) else if IntKind.i64.wrap (b0.tdiv d16.2)<IntKind.i64.wrap (b0.tdiv d16.1) then IntKind.i64.wrap (b0.tdiv d16.2) else IntKind.i64.wrap (b0.tdiv d16.1) then IntKind.i64.wrap (b0_1.tdiv d16.2) else if IntKind.i64.wrap (b0_1.tdiv d16.1)<if IntKind.i64.wrap (b0.tdiv d16.2)<IntKind.i64.wrap (b0.tdiv d16.1) then IntKind.i64.wrap (b0.tdiv d16.2) else IntKind.i64.wrap (b0.tdiv d16.1) then IntKind.i64.wrap (b0_1.tdiv d16.1) else if IntKind.i64.wrap (b0.tdiv d16.2)<IntKind.i64.wrap (b0.tdiv d16.1) then IntKind.i64.wrap (b0.tdiv d16.2) else IntKind.i64.wrap (b0.tdiv d16.1),if IntKind.i64.wrap (b0_1.tdiv d16.2)>if IntKind.i64.wrap (b0_1.tdiv d16.1)>if IntKind.i64.wrap (b0.tdiv d16.2)>IntKind.i64.wrap (b0.tdiv d16.1) then IntKind.i64.wrap (b0.tdiv d16.2) else IntKind.i64.wrap (b0.tdiv d16.1) then
 IntKind.i64.wrap (b0_1.tdiv d16.1) else if IntKind.i64.wrap (b0.tdiv d16.2)>IntKind.i64.wrap (b0.tdiv d16.1) then IntKind.i64.wrap (b0.tdiv d16.2) else IntKind.i64.wrap (b0.tdiv d16.1) then IntKind.i64.wrap (b0_1.tdiv d16.2) else if IntKind.i64.wrap (b0_1.tdiv d16.1)>if IntKind.i64.wrap (b0.tdiv d16.2)>IntKind.i64.wrap (b0.tdiv d16.1) then IntKind.i64.wrap (b0.tdiv d16.2) else IntKind.i64.wrap (b0.tdiv d16.1) then IntKind.i64.wrap (b0_1.tdiv d16.1) else if IntKind.i64.wrap (b0.tdiv d16.2)>IntKind.i64.wrap (b0.tdiv d16.1) then IntKind.i64.wrap (b0.tdiv d16.2) else IntKind.i64.wrap (b0.tdiv d16.1)),(-2147483648,2147483647),())) none fun d17=>Za (ZM ([(b3,b3_1),d17],())) none fun d18=>bif s7 then some (.inl (true,s16,IntKind.i64.wrap (s17+1),b0,b0_1,b1,b1_1,b2,b2_1,d18.1,d18.2,b4)) else Za (QB ((if IntKind.i64.wrap (b0_1.tdiv d16.2)<if IntKind.i64.wrap (b0_1.tdiv d16.1)<if IntKind.i64.wrap (b0.tdiv d16.2)<IntKind.i64.wrap (b0.tdiv d16.1) then IntKind.i64.wrap (b0.tdiv d16.2) else IntKind.i64.wrap (b0.tdiv d16.1) then IntKind.i64.wrap (b0_1.tdiv d16.1) else if IntKind.i64.wrap (b0.tdiv d16.2)<IntKind.i64.wrap (b0.tdiv d16.1) then IntKind.i64.wrap (b0.tdiv d16.2) else IntKind.i64.wrap (b0.tdiv d16.1) then IntKind.i64.wrap (b0_1.tdiv d16.2) else if IntKind.i64.wrap (b0_1.tdiv d16.1)<if IntKind.i64.wrap (b0.tdiv d16.2)<IntKind.i64.wrap (b0.tdiv d16.1) then IntKind.i64.wrap (b0.tdiv d16.2) else IntKind.i64.wrap (b0.tdiv d16.1) then IntKind.i64.wrap (b0_1.tdiv d16.1) else if IntKind.i64.wrap (b0.tdiv d16.2)<IntKind.i64.wrap (b0.tdiv d16.1) then IntKind.i64.wrap (b0.tdiv d16.2)
 else IntKind.i64.wrap (b0.tdiv d16.1),if IntKind.i64.wrap (b0_1.tdiv d16.2)>if IntKind.i64.wrap (b0_1.tdiv d16.1)>if IntKind.i64.wrap (b0.tdiv d16.2)>IntKind.i64.wrap (b0.tdiv d16.1) then IntKind.i64.wrap (b0.tdiv d16.2) else IntKind.i64.wrap (b0.tdiv d16.1) then IntKind.i64.wrap (b0_1.tdiv d16.1) else if IntKind.i64.wrap (b0.tdiv d16.2)>IntKind.i64.wrap (b0.tdiv d16.1) then IntKind.i64.wrap (b0.tdiv d16.2) else IntKind.i64.wrap (b0.tdiv d16.1) then IntKind.i64.wrap (b0_1.tdiv d16.2) else if IntKind.i64.wrap (b0_1.tdiv d16.1)>if IntKind.i64.wrap (b0.tdiv d16.2)>IntKind.i64.wrap (b0.tdiv d16.1) then IntKind.i64.wrap (b0.tdiv d16.2) else IntKind.i64.wrap (b0.tdiv d16.1) then IntKind.i64.wrap (b0_1.tdiv d16.1) else if IntKind.i64.wrap (b0.tdiv d16.2)>IntKind.i64.wrap (b0.tdiv d16.1) then IntKind.i64.wrap (b0.tdiv d16.2) else IntKind.i64.wrap (b0.tdiv d16.1)),(-2147483648,2147483647),())) none fun d19=>some (.inl (!d19,s16,IntKind.i64.wrap (s17+1),b0,b0_1,b1,b1_1,b2,b2_1,d18.1,d18.2,b4)) else some (.inl (s7,s16,IntKind.i64.wrap (s17+1),b0,b0_1,b1,b1_1,b2,b2_1,b3,b3_1,b4)) else none else some (.inr (s7,b2,b2_1,b3,b3_1))
def Znq:JV→Option (JV⊕Qo):=fun (a,b,c,d,e,f,g,h,i,j,k,l)=>Ys a b c d e f g h i j k l
def Y3 (x:JV):Option Qo:=Zh Znq Zl x
def Zpz:Nat→Tm→Prog (Nat×Tm):=(varP 0 (fun T h=>(rdS Zbf T h).map ZwR) Y3 (altE 2 KW ZdQ) (fun _ _=>.fail))
def ZzT:Lpc:=⟨195,0,46,(fun base T=>.norm base (ZoC 0) T (Zpz base)),by kernel_rfl,by kernel_rfl,(loopU ZxS [] 40 1048576 8 (keep:=ZoC) (q:=Zpz) (by kernel_rfl) (Zv (s:=Zbf) (un:=Zyf) (by rfl) (fun _=>rfl) (Zn (s:=KW) (un:=ZdQ) (flat:=ZQI) (by rfl) (fun _=>rfl)) (step:=Znq) (fun _=>by kernel_rfl) (fun _ _ e=>⟨_,e⟩) (Zm 2 KW ZdQ) (ZB.fail _ _)))⟩
def Zqt (a0 a1:I):Option (I×(Bool×Unit)):=Za (Y3 (false,(↑[(1,2147483647),(-2147483648,-1)].length:Int),0,a0.1,a0.2,a1.1,a1.2,0,0,1,0,[(1,2147483647),(-2147483648,-1)])) none fun d4=>some ((d4.2.2.2.1,d4.2.2.2.2),d4.1,PUnit.unit)
def Zmt (x:I×(I×Unit)):Option (I×(Bool×Unit)):=Zqt x.1 x.2.1
def ZuX:=conP true ZJh (.tup [.dat tI,.dat .bool]) Zmt
theorem ZJY:Zf Tryz.prog 195 ZuX:=Ze (calU ZxS [ZzT] 40 1048576 8 195) true (by rfl) (by rfl) (fun x r e=>(Zk _ _ _ _ _ _ _).trans ((show _=Zmt x by kernel_rfl).trans e)) (.inl rfl)
def JG (b0 b0_1 b1 b1_1 b2 b2_1:Int) (b4:List I) (i:Nat) (s7:Bool) (b3 b3_1:Int) (d:I):Option ((Bool×Int×Int)⊕Qo):=
 Za (ZH ((b1,b1_1),d,())) (none) fun d16=>
  bif !decide (d16.1>d16.2) then
  bif decide (d16.1=0) then
  none
 else bif decide (d16.2=0) then
  none
 else bif decide (d16.1=0) then
  none
 else bif decide (d16.2=0) then
  none
 else Za (ZH ((if IntKind.i64.wrap (b0_1.tdiv d16.2)<if IntKind.i64.wrap (b0_1.tdiv d16.1)<if IntKind.i64.wrap (b0.tdiv d16.2)<IntKind.i64.wrap (b0.tdiv d16.1) then IntKind.i64.wrap (b0.tdiv d16.2) else IntKind.i64.wrap (b0.tdiv d16.1) then IntKind.i64.wrap (b0_1.tdiv d16.1) else if IntKind.i64.wrap (b0.tdiv d16.2)<IntKind.i64.wrap (b0.tdiv d16.1) then IntKind.i64.wrap (b0.tdiv d16.2) else IntKind.i64.wrap (b0.tdiv d16.1) then IntKind.i64.wrap (b0_1.tdiv d16.2) else if IntKind.i64.wrap (b0_1.tdiv d16.1)<if IntKind.i64.wrap (b0.tdiv d16.2)<IntKind.i64.wrap (b0.tdiv d16.1) then IntKind.i64.wrap (b0.tdiv d16.2) else IntKind.i64.wrap (b0.tdiv d16.1) then IntKind.i64.wrap (b0_1.tdiv d16.1) else if IntKind.i64.wrap (b0.tdiv d16.2)<IntKind.i64.wrap (b0.tdiv d16.1) then IntKind.i64.wrap (b0.tdiv d16.2) else IntKind.i64.wrap (b0.tdiv d16.1),if IntKind.i64.wrap (b0_1.tdiv d16.2)>if IntKind.i64.wrap (b0_1.tdiv d16.1)>if IntKind.i64.wrap (b0.tdiv d16.2)>IntKind.i64.wrap (b0.tdiv d16.1) then IntKind.i64.wrap (b0.tdiv d16.2) else IntKind.i64.wrap (b0.tdiv d16.1) then IntKind.i64.wrap (b0_1.tdiv d16.1) else if IntKind.i64.wrap (b0.tdiv d16.2)>IntKind.i64.wrap (b0.tdiv d16.1) then IntKind.i64.wrap (b0.tdiv d16.2) else IntKind.i64.wrap (b0.tdiv d16.1) then IntKind.i64.wrap (b0_1.tdiv d16.2) else if IntKind.i64.wrap (b0_1.tdiv d16.1)>if IntKind.i64.wrap (b0.tdiv d16.2)>IntKind.i64.wrap (b0.tdiv d16.1) then IntKind.i64.wrap (b0.tdiv d16.2) else IntKind.i64.wrap (b0.tdiv d16.1) then IntKind.i64.wrap (b0_1.tdiv d16.1) else if IntKind.i64.wrap (b0.tdiv d16.2)>IntKind.i64.wrap (b0.tdiv d16.1) then IntKind.i64.wrap (b0.tdiv d16.2) else IntKind.i64.wrap (b0.tdiv d16.1)),(-2147483648,2147483647),())) (none) fun d17=>
  Za (ZM ([(b3,b3_1),d17],())) (none) fun d18=>
  bif s7 then
  some (.inl (true,d18.1,d18.2))
 else Za (QB ((if IntKind.i64.wrap (b0_1.tdiv d16.2)<if IntKind.i64.wrap (b0_1.tdiv d16.1)<if IntKind.i64.wrap (b0.tdiv d16.2)<IntKind.i64.wrap (b0.tdiv d16.1) then IntKind.i64.wrap (b0.tdiv d16.2) else IntKind.i64.wrap (b0.tdiv d16.1) then IntKind.i64.wrap (b0_1.tdiv d16.1) else if IntKind.i64.wrap (b0.tdiv d16.2)<IntKind.i64.wrap (b0.tdiv d16.1) then IntKind.i64.wrap (b0.tdiv d16.2) else IntKind.i64.wrap (b0.tdiv d16.1) then IntKind.i64.wrap (b0_1.tdiv d16.2) else if IntKind.i64.wrap (b0_1.tdiv d16.1)<if IntKind.i64.wrap (b0.tdiv d16.2)<IntKind.i64.wrap (b0.tdiv d16.1) then IntKind.i64.wrap (b0.tdiv d16.2) else IntKind.i64.wrap (b0.tdiv d16.1) then IntKind.i64.wrap (b0_1.tdiv d16.1) else if IntKind.i64.wrap (b0.tdiv d16.2)<IntKind.i64.wrap (b0.tdiv d16.1) then IntKind.i64.wrap (b0.tdiv d16.2) else IntKind.i64.wrap (b0.tdiv d16.1),if IntKind.i64.wrap (b0_1.tdiv d16.2)>if IntKind.i64.wrap (b0_1.tdiv d16.1)>if IntKind.i64.wrap (b0.tdiv d16.2)>IntKind.i64.wrap (b0.tdiv d16.1) then IntKind.i64.wrap (b0.tdiv d16.2) else IntKind.i64.wrap (b0.tdiv d16.1) then IntKind.i64.wrap (b0_1.tdiv d16.1) else if IntKind.i64.wrap (b0.tdiv d16.2)>IntKind.i64.wrap (b0.tdiv d16.1) then IntKind.i64.wrap (b0.tdiv d16.2) else IntKind.i64.wrap (b0.tdiv d16.1) then IntKind.i64.wrap (b0_1.tdiv d16.2) else if IntKind.i64.wrap (b0_1.tdiv d16.1)>if IntKind.i64.wrap (b0.tdiv d16.2)>IntKind.i64.wrap (b0.tdiv d16.1) then IntKind.i64.wrap (b0.tdiv d16.2) else IntKind.i64.wrap (b0.tdiv d16.1) then IntKind.i64.wrap (b0_1.tdiv d16.1) else if IntKind.i64.wrap (b0.tdiv d16.2)>IntKind.i64.wrap (b0.tdiv d16.1) then IntKind.i64.wrap (b0.tdiv d16.2) else IntKind.i64.wrap (b0.tdiv d16.1)),(-2147483648,2147483647),())) (none) fun d19=>
  some (.inl (!d19,d18.1,d18.2))
 else some (.inl (s7,b3,b3_1))
def ZfB (b0 b0_1 b1 b1_1 b2 b2_1:Int) (b4:List I) (s7:Bool) (b3 b3_1:Int):Option Qo:=
 some (s7,b2,b2_1,b3,b3_1)
abbrev ZxL (b0 b0_1 b1 b1_1 b2 b2_1:Int) (b4:List I) (i:Nat) (s:Bool×Int×Int):JV:=(s.1,(b4.length:Int),(i:Int),b0,b0_1,b1,b1_1,b2,b2_1,s.2.1,s.2.2,b4)
def ZfE (b0 b0_1 b1 b1_1 b2 b2_1:Int) (b4:List I) (s:Bool×Int×Int):Option Qo:=Zp (fun i s d=>JG b0 b0_1 b1 b1_1 b2 b2_1 b4 i s.1 s.2.1 s.2.2 d) (fun s=>ZfB b0 b0_1 b1 b1_1 b2 b2_1 b4 s.1 s.2.1 s.2.2) 0 b4 s
theorem ZxI (b0 b0_1 b1 b1_1 b2 b2_1:Int) (b4:List I) (s:Bool×Int×Int) (hl:b4.length<9223372036854775807):Y3 (s.1,(b4.length:Int),0,b0,b0_1,b1,b1_1,b2,b2_1,s.2.1,s.2.2,b4)=ZfE b0 b0_1 b1 b1_1 b2 b2_1 b4 s:=by
 unfold Y3 ZfE
 refine Zs b4 (ZxL b0 b0_1 b1 b1_1 b2 b2_1 b4) _ _ ?_ ?_ s (by unfold Zl;omega)
 ·intro i s d hi hd
  have e1:decide ((i:Int)<(b4.length:Int))=true:=dT0 (by omega)
  have e2:decide (0≤(i:Int))=true:=dT0 (by omega)
  have e3:Int.toNat (i:Int)=i:=tN0 i
  have e4:=Zq hi (Nat.le_of_lt hl)
  show Ys (s.1) ((b4.length:Int)) ((i:Int)) (b0) (b0_1) (b1) (b1_1) (b2) (b2_1) (s.2.1) (s.2.2) (b4)=upd _ (JG b0 b0_1 b1 b1_1 b2 b2_1 b4 i s.1 s.2.1 s.2.2 d)
  unfold Ys JG
  simp only [e1,e2,e3,e4,hd,cond_true,cond_false,Zb,ZC,ZF,ZD,ZI,ZJ,ZE]
 ·intro s
  have e1:decide ((b4.length:Int)<(b4.length:Int))=false:=dF0 (by omega)
  show Ys (s.1) ((b4.length:Int)) ((b4.length:Int)) (b0) (b0_1) (b1) (b1_1) (b2) (b2_1) (s.2.1) (s.2.2) (b4)=_
  unfold Ys ZfB
  rw [e1]
  rfl
def ZUD:List Sh:=[.dat tI,.dat (.int .i64)]
def ZYP:List Con:=[]
def ZHx (a0:I) (a1:Int):Option Bool:=bif decide (a1≥a0.1) then some (decide (a1≤a0.2)) else some false
def Ztj (x:I×(Int×Unit)):Option Bool:=ZHx x.1 x.2.1
def ZKh:=conP true ZUD (.dat .bool) Ztj
theorem ZVM:Zf Tryz.prog 196 ZKh:=Ze (calU ZYP [] 40 1048576 8 196) true (by rfl) (by rfl) (fun x r e=>(Zk _ _ _ _ _ _ _).trans ((show _=Ztj x by kernel_rfl).trans e)) (.inl rfl)
def ZQo:List Sh:=[.dat tI,.dat tI]
def ZTV:List Con:=[⟨110,Yp,HW⟩]
def ZzH (a0 a1:I):Option I:=bif a1.1==0&&a1.2==0 then some (1,0) else bif decide (a0.1<0) then bif decide (a0.2>0) then some (if IntKind.i64.wrap (0 - IntKind.i64.wrap ((if IntKind.i64.wrap (0 - a1.1)>if a1.1>if IntKind.i64.wrap (0 - a1.2)>a1.2 then IntKind.i64.wrap (0 - a1.2) else a1.2 then a1.1 else if IntKind.i64.wrap (0 - a1.2)>a1.2 then IntKind.i64.wrap (0 - a1.2) else a1.2 then IntKind.i64.wrap (0 - a1.1) else if a1.1>if IntKind.i64.wrap (0 - a1.2)>a1.2 then IntKind.i64.wrap (0 - a1.2) else a1.2 then a1.1 else if IntKind.i64.wrap (0 - a1.2)>a1.2 then IntKind.i64.wrap (0 - a1.2) else a1.2) - 1))>a0.1 then IntKind.i64.wrap (0 - IntKind.i64.wrap ((if IntKind.i64.wrap (0 - a1.1)>if a1.1>if IntKind.i64.wrap (0 - a1.2)>a1.2 then IntKind.i64.wrap (0 - a1.2) else a1.2 then a1.1 else if IntKind.i64.wrap (0 - a1.2)>a1.2 then IntKind.i64.wrap (0 - a1.2) else a1.2 then IntKind.i64.wrap (0 - a1.1) else if a1.1>if IntKind.i64.wrap (0 - a1.2)>a1.2 then IntKind.i64.wrap (0 - a1.2) else a1.2 then a1.1 else if IntKind.i64.wrap (0 - a1.2)>a1.2 then IntKind.i64.wrap (0 - a1.2) else a1.2) - 1)) else a0.1,if IntKind.i64.wrap ((if IntKind.i64.wrap (0 - a1.1)>if a1.1>if IntKind.i64.wrap (0 - a1.2)>a1.2 then IntKind.i64.wrap (0 - a1.2) else a1.2 then a1.1 else if IntKind.i64.wrap (0 - a1.2)>a1.2 then IntKind.i64.wrap (0 - a1.2) else a1.2 then IntKind.i64.wrap (0 - a1.1) else if a1.1>if IntKind.i64.wrap (0 - a1.2)>a1.2 then IntKind.i64.wrap (0 - a1.2) else a1.2 then a1.1 else if IntKind.i64.wrap (0 - a1.2)>a1.2 then IntKind.i64.wrap (0 - a1.2) else a1.2) - 1)<a0.2 then IntKind.i64.wrap ((if
 IntKind.i64.wrap (0 - a1.1)>if a1.1>if IntKind.i64.wrap (0 - a1.2)>a1.2 then IntKind.i64.wrap (0 - a1.2) else a1.2 then a1.1 else if IntKind.i64.wrap (0 - a1.2)>a1.2 then IntKind.i64.wrap (0 - a1.2) else a1.2 then IntKind.i64.wrap (0 - a1.1) else if a1.1>if IntKind.i64.wrap (0 - a1.2)>a1.2 then IntKind.i64.wrap (0 - a1.2) else a1.2 then a1.1 else if IntKind.i64.wrap (0 - a1.2)>a1.2 then IntKind.i64.wrap (0 - a1.2) else a1.2) - 1) else a0.2) else some (if IntKind.i64.wrap (0 - IntKind.i64.wrap ((if IntKind.i64.wrap (0 - a1.1)>if a1.1>if IntKind.i64.wrap (0 - a1.2)>a1.2 then IntKind.i64.wrap (0 - a1.2) else a1.2 then a1.1 else if IntKind.i64.wrap (0 - a1.2)>a1.2 then IntKind.i64.wrap (0 - a1.2) else a1.2 then IntKind.i64.wrap (0 - a1.1) else if a1.1>if IntKind.i64.wrap (0 - a1.2)>a1.2 then IntKind.i64.wrap (0 - a1.2) else a1.2 then a1.1 else if IntKind.i64.wrap (0 - a1.2)>a1.2 then IntKind.i64.wrap (0 - a1.2) else a1.2) - 1))>a0.1 then IntKind.i64.wrap (0 - IntKind.i64.wrap ((if IntKind.i64.wrap (0 - a1.1)>if a1.1>if IntKind.i64.wrap (0 - a1.2)>a1.2 then IntKind.i64.wrap (0 - a1.2) else a1.2 then a1.1 else if IntKind.i64.wrap (0 - a1.2)>a1.2 then IntKind.i64.wrap (0 - a1.2) else a1.2 then IntKind.i64.wrap (0 - a1.1) else if a1.1>if IntKind.i64.wrap (0 - a1.2)>a1.2 then IntKind.i64.wrap (0 - a1.2) else a1.2 then a1.1 else if IntKind.i64.wrap (0 - a1.2)>a1.2 then IntKind.i64.wrap (0 - a1.2) else a1.2) - 1)) else a0.1,0) else bif decide (a0.2>0) then some (0,if IntKind.i64.wrap ((if IntKind.i64.wrap (0 - a1.1)>if a1.1>if IntKind.i64.wrap (0 - a1.2)>a1.2 then IntKind.i64.wrap (0 - a1.2) else a1.2 then a1.1
 else if IntKind.i64.wrap (0 - a1.2)>a1.2 then IntKind.i64.wrap (0 - a1.2) else a1.2 then IntKind.i64.wrap (0 - a1.1) else if a1.1>if IntKind.i64.wrap (0 - a1.2)>a1.2 then IntKind.i64.wrap (0 - a1.2) else a1.2 then a1.1 else if IntKind.i64.wrap (0 - a1.2)>a1.2 then IntKind.i64.wrap (0 - a1.2) else a1.2) - 1)<a0.2 then IntKind.i64.wrap ((if IntKind.i64.wrap (0 - a1.1)>if a1.1>if IntKind.i64.wrap (0 - a1.2)>a1.2 then IntKind.i64.wrap (0 - a1.2) else a1.2 then a1.1 else if IntKind.i64.wrap (0 - a1.2)>a1.2 then IntKind.i64.wrap (0 - a1.2) else a1.2 then IntKind.i64.wrap (0 - a1.1) else if a1.1>if IntKind.i64.wrap (0 - a1.2)>a1.2 then IntKind.i64.wrap (0 - a1.2) else a1.2 then a1.1 else if IntKind.i64.wrap (0 - a1.2)>a1.2 then IntKind.i64.wrap (0 - a1.2) else a1.2) - 1) else a0.2) else some (0,0)
def ZsZ (x:I×(I×Unit)):Option I:=ZzH x.1 x.2.1
def ZEN:=conP true ZQo (.dat tI) ZsZ
theorem ZQV:Zf Tryz.prog 197 ZEN:=Ze (calU ZTV [] 40 1048576 8 197) true (by rfl) (by rfl) (fun x r e=>(Zk _ _ _ _ _ _ _).trans ((show _=ZsZ x by kernel_rfl).trans e)) (.inl rfl)
def ZX4:List Sh:=[.dat (.int .i64),.dat tI,.dat tI]
def Z0B:List Con:=[⟨153,Km,YC⟩,⟨110,Yp,HW⟩,⟨195,ZuX,ZJY⟩,⟨196,ZKh,ZVM⟩,⟨197,ZEN,ZQV⟩,⟨130,Zs6,Zz6⟩,⟨174,ZmO,Zq0⟩,⟨126,Zov,Zti⟩]
def ZLl (a0:Int) (a1 a2:I):Option (I×(Bool×(Bool×Unit))):=bif decide (a1.1>a1.2) then some ((1,0),false,false,PUnit.unit) else bif decide (a2.1>a2.2) then some ((1,0),false,false,PUnit.unit) else bif a0==1 then Za (ZH ((IntKind.i64.wrap (a1.1+a2.1),IntKind.i64.wrap (a1.2+a2.2)),(-2147483648,2147483647),())) none fun d4=>Za (QB ((IntKind.i64.wrap (a1.1+a2.1),IntKind.i64.wrap (a1.2+a2.2)),(-2147483648,2147483647),())) none fun d5=>some ((d4.1,d4.2),!d5,false,PUnit.unit) else bif a0==2 then Za (ZH ((IntKind.i64.wrap (a1.1 - a2.2),IntKind.i64.wrap (a1.2 - a2.1)),(-2147483648,2147483647),())) none fun d4=>Za (QB ((IntKind.i64.wrap (a1.1 - a2.2),IntKind.i64.wrap (a1.2 - a2.1)),(-2147483648,2147483647),())) none fun d5=>some ((d4.1,d4.2),!d5,false,PUnit.unit) else bif a0==3 then Za (ZH ((if IntKind.i64.wrap (a1.2*a2.2)<if IntKind.i64.wrap (a1.2*a2.1)<if IntKind.i64.wrap (a1.1*a2.2)<IntKind.i64.wrap (a1.1*a2.1) then IntKind.i64.wrap (a1.1*a2.2) else IntKind.i64.wrap (a1.1*a2.1) then IntKind.i64.wrap (a1.2*a2.1) else if IntKind.i64.wrap (a1.1*a2.2)<IntKind.i64.wrap (a1.1*a2.1) then IntKind.i64.wrap (a1.1*a2.2) else IntKind.i64.wrap (a1.1*a2.1) then IntKind.i64.wrap (a1.2*a2.2) else if IntKind.i64.wrap (a1.2*a2.1)<if IntKind.i64.wrap (a1.1*a2.2)<IntKind.i64.wrap (a1.1*a2.1) then IntKind.i64.wrap (a1.1*a2.2) else IntKind.i64.wrap (a1.1*a2.1) then IntKind.i64.wrap (a1.2*a2.1)
 else if IntKind.i64.wrap (a1.1*a2.2)<IntKind.i64.wrap (a1.1*a2.1) then IntKind.i64.wrap (a1.1*a2.2) else IntKind.i64.wrap (a1.1*a2.1),if IntKind.i64.wrap (a1.2*a2.2)>if IntKind.i64.wrap (a1.2*a2.1)>if IntKind.i64.wrap (a1.1*a2.2)>IntKind.i64.wrap (a1.1*a2.1) then IntKind.i64.wrap (a1.1*a2.2) else IntKind.i64.wrap (a1.1*a2.1) then IntKind.i64.wrap (a1.2*a2.1) else if IntKind.i64.wrap (a1.1*a2.2)>IntKind.i64.wrap (a1.1*a2.1) then IntKind.i64.wrap (a1.1*a2.2) else IntKind.i64.wrap (a1.1*a2.1) then IntKind.i64.wrap (a1.2*a2.2) else if IntKind.i64.wrap (a1.2*a2.1)>if IntKind.i64.wrap (a1.1*a2.2)>IntKind.i64.wrap (a1.1*a2.1) then IntKind.i64.wrap (a1.1*a2.2) else IntKind.i64.wrap (a1.1*a2.1) then IntKind.i64.wrap (a1.2*a2.1) else if IntKind.i64.wrap (a1.1*a2.2)>IntKind.i64.wrap (a1.1*a2.1) then IntKind.i64.wrap (a1.1*a2.2) else IntKind.i64.wrap (a1.1*a2.1)),(-2147483648,2147483647),())) none fun d4=>Za (QB ((if IntKind.i64.wrap (a1.2*a2.2)<if IntKind.i64.wrap (a1.2*a2.1)<if IntKind.i64.wrap (a1.1*a2.2)<IntKind.i64.wrap (a1.1*a2.1) then IntKind.i64.wrap (a1.1*a2.2) else IntKind.i64.wrap (a1.1*a2.1) then IntKind.i64.wrap (a1.2*a2.1) else if IntKind.i64.wrap (a1.1*a2.2)<IntKind.i64.wrap (a1.1*a2.1) then IntKind.i64.wrap (a1.1*a2.2) else IntKind.i64.wrap (a1.1*a2.1) then IntKind.i64.wrap (a1.2*a2.2) else if IntKind.i64.wrap (a1.2*a2.1)<if IntKind.i64.wrap (a1.1*a2.2)<IntKind.i64.wrap (a1.1*a2.1) then IntKind.i64.wrap (a1.1*a2.2) else IntKind.i64.wrap (a1.1*a2.1) then IntKind.i64.wrap (a1.2*a2.1)
 else if IntKind.i64.wrap (a1.1*a2.2)<IntKind.i64.wrap (a1.1*a2.1) then IntKind.i64.wrap (a1.1*a2.2) else IntKind.i64.wrap (a1.1*a2.1),if IntKind.i64.wrap (a1.2*a2.2)>if IntKind.i64.wrap (a1.2*a2.1)>if IntKind.i64.wrap (a1.1*a2.2)>IntKind.i64.wrap (a1.1*a2.1) then IntKind.i64.wrap (a1.1*a2.2) else IntKind.i64.wrap (a1.1*a2.1) then IntKind.i64.wrap (a1.2*a2.1) else if IntKind.i64.wrap (a1.1*a2.2)>IntKind.i64.wrap (a1.1*a2.1) then IntKind.i64.wrap (a1.1*a2.2) else IntKind.i64.wrap (a1.1*a2.1) then IntKind.i64.wrap (a1.2*a2.2) else if IntKind.i64.wrap (a1.2*a2.1)>if IntKind.i64.wrap (a1.1*a2.2)>IntKind.i64.wrap (a1.1*a2.1) then IntKind.i64.wrap (a1.1*a2.2) else IntKind.i64.wrap (a1.1*a2.1) then IntKind.i64.wrap (a1.2*a2.1) else if IntKind.i64.wrap (a1.1*a2.2)>IntKind.i64.wrap (a1.1*a2.1) then IntKind.i64.wrap (a1.1*a2.2) else IntKind.i64.wrap (a1.1*a2.1)),(-2147483648,2147483647),())) none fun d5=>some ((d4.1,d4.2),!d5,false,PUnit.unit) else bif a0==4 then Za (Zmt (a1,a2,())) none fun d4=>Za (Ztj (a2,0,())) none fun d5=>some ((d4.1.1,d4.1.2),d4.2.1,d5,PUnit.unit) else bif a0==5 then Za (ZsZ (a1,a2,())) none fun d4=>Za (Ztj (a2,0,())) none fun d5=>some ((d4.1,d4.2),false,d5,PUnit.unit) else some ((1,0),!true,false,PUnit.unit)
def Zsc (x:(Int×(I×(I×Unit)))):Option (I×(Bool×(Bool×Unit))):=ZLl x.1 x.2.1 x.2.2.1
def ZMe:=conP true ZX4 (.tup [.dat tI,.dat .bool,.dat .bool]) Zsc
theorem ZYK:Zf Tryz.prog 170 ZMe:=Ze (calU Z0B [] 40 1048576 8 170) true (by rfl) (by rfl) (fun x r e=>(Zk _ _ _ _ _ _ _).trans ((show _=Zsc x by kernel_rfl).trans e)) (.inl rfl)
def ZC2 (a0 a1:I):Option I:=bif a1.1==0 then bif a1.2==0 then some (1,0) else bif decide (a0.1<0) then bif decide (a0.2>0) then some (if IntKind.i64.wrap (0 - IntKind.i64.wrap ((if IntKind.i64.wrap (0 - a1.2)>if a1.2>if IntKind.i64.wrap (0 - a1.1)>a1.1 then IntKind.i64.wrap (0 - a1.1) else a1.1 then a1.2 else if IntKind.i64.wrap (0 - a1.1)>a1.1 then IntKind.i64.wrap (0 - a1.1) else a1.1 then IntKind.i64.wrap (0 - a1.2) else if a1.2>if IntKind.i64.wrap (0 - a1.1)>a1.1 then IntKind.i64.wrap (0 - a1.1) else a1.1 then a1.2 else if IntKind.i64.wrap (0 - a1.1)>a1.1 then IntKind.i64.wrap (0 - a1.1) else a1.1) - 1))>a0.1 then IntKind.i64.wrap (0 - IntKind.i64.wrap ((if IntKind.i64.wrap (0 - a1.2)>if a1.2>if IntKind.i64.wrap (0 - a1.1)>a1.1 then IntKind.i64.wrap (0 - a1.1) else a1.1 then a1.2 else if IntKind.i64.wrap (0 - a1.1)>a1.1 then IntKind.i64.wrap (0 - a1.1) else a1.1 then IntKind.i64.wrap (0 - a1.2) else if a1.2>if IntKind.i64.wrap (0 - a1.1)>a1.1 then IntKind.i64.wrap (0 - a1.1) else a1.1 then a1.2 else if IntKind.i64.wrap (0 - a1.1)>a1.1 then IntKind.i64.wrap (0 - a1.1) else a1.1) - 1)) else a0.1,if IntKind.i64.wrap ((if IntKind.i64.wrap (0 - a1.2)>if a1.2>if IntKind.i64.wrap (0 - a1.1)>a1.1 then IntKind.i64.wrap (0 - a1.1) else a1.1 then a1.2 else if IntKind.i64.wrap (0 - a1.1)>a1.1 then IntKind.i64.wrap (0 - a1.1) else a1.1 then IntKind.i64.wrap (0 - a1.2) else if a1.2>if IntKind.i64.wrap (0 - a1.1)>a1.1 then IntKind.i64.wrap (0 - a1.1) else a1.1 then a1.2 else if IntKind.i64.wrap (0 - a1.1)>a1.1 then IntKind.i64.wrap (0 - a1.1) else a1.1) - 1)<a0.2 then IntKind.i64.wrap ((if
 IntKind.i64.wrap (0 - a1.2)>if a1.2>if IntKind.i64.wrap (0 - a1.1)>a1.1 then IntKind.i64.wrap (0 - a1.1) else a1.1 then a1.2 else if IntKind.i64.wrap (0 - a1.1)>a1.1 then IntKind.i64.wrap (0 - a1.1) else a1.1 then IntKind.i64.wrap (0 - a1.2) else if a1.2>if IntKind.i64.wrap (0 - a1.1)>a1.1 then IntKind.i64.wrap (0 - a1.1) else a1.1 then a1.2 else if IntKind.i64.wrap (0 - a1.1)>a1.1 then IntKind.i64.wrap (0 - a1.1) else a1.1) - 1) else a0.2) else some (if IntKind.i64.wrap (0 - IntKind.i64.wrap ((if IntKind.i64.wrap (0 - a1.2)>if a1.2>if IntKind.i64.wrap (0 - a1.1)>a1.1 then IntKind.i64.wrap (0 - a1.1) else a1.1 then a1.2 else if IntKind.i64.wrap (0 - a1.1)>a1.1 then IntKind.i64.wrap (0 - a1.1) else a1.1 then IntKind.i64.wrap (0 - a1.2) else if a1.2>if IntKind.i64.wrap (0 - a1.1)>a1.1 then IntKind.i64.wrap (0 - a1.1) else a1.1 then a1.2 else if IntKind.i64.wrap (0 - a1.1)>a1.1 then IntKind.i64.wrap (0 - a1.1) else a1.1) - 1))>a0.1 then IntKind.i64.wrap (0 - IntKind.i64.wrap ((if IntKind.i64.wrap (0 - a1.2)>if a1.2>if IntKind.i64.wrap (0 - a1.1)>a1.1 then IntKind.i64.wrap (0 - a1.1) else a1.1 then a1.2 else if IntKind.i64.wrap (0 - a1.1)>a1.1 then IntKind.i64.wrap (0 - a1.1) else a1.1 then IntKind.i64.wrap (0 - a1.2) else if a1.2>if IntKind.i64.wrap (0 - a1.1)>a1.1 then IntKind.i64.wrap (0 - a1.1) else a1.1 then a1.2 else if IntKind.i64.wrap (0 - a1.1)>a1.1 then IntKind.i64.wrap (0 - a1.1) else a1.1) - 1)) else a0.1,0) else bif decide (a0.2>0) then some (0,if IntKind.i64.wrap ((if IntKind.i64.wrap (0 - a1.2)>if a1.2>if IntKind.i64.wrap (0 - a1.1)>a1.1 then IntKind.i64.wrap (0 - a1.1) else a1.1 then a1.2
 else if IntKind.i64.wrap (0 - a1.1)>a1.1 then IntKind.i64.wrap (0 - a1.1) else a1.1 then IntKind.i64.wrap (0 - a1.2) else if a1.2>if IntKind.i64.wrap (0 - a1.1)>a1.1 then IntKind.i64.wrap (0 - a1.1) else a1.1 then a1.2 else if IntKind.i64.wrap (0 - a1.1)>a1.1 then IntKind.i64.wrap (0 - a1.1) else a1.1) - 1)<a0.2 then IntKind.i64.wrap ((if IntKind.i64.wrap (0 - a1.2)>if a1.2>if IntKind.i64.wrap (0 - a1.1)>a1.1 then IntKind.i64.wrap (0 - a1.1) else a1.1 then a1.2 else if IntKind.i64.wrap (0 - a1.1)>a1.1 then IntKind.i64.wrap (0 - a1.1) else a1.1 then IntKind.i64.wrap (0 - a1.2) else if a1.2>if IntKind.i64.wrap (0 - a1.1)>a1.1 then IntKind.i64.wrap (0 - a1.1) else a1.1 then a1.2 else if IntKind.i64.wrap (0 - a1.1)>a1.1 then IntKind.i64.wrap (0 - a1.1) else a1.1) - 1) else a0.2) else some (0,0) else bif decide (a0.1<0) then bif decide (a0.2>0) then some (if IntKind.i64.wrap (0 - IntKind.i64.wrap ((if IntKind.i64.wrap (0 - a1.2)>if a1.2>if IntKind.i64.wrap (0 - a1.1)>a1.1 then IntKind.i64.wrap (0 - a1.1) else a1.1 then a1.2 else if IntKind.i64.wrap (0 - a1.1)>a1.1 then IntKind.i64.wrap (0 - a1.1) else a1.1 then IntKind.i64.wrap (0 - a1.2) else if a1.2>if IntKind.i64.wrap (0 - a1.1)>a1.1 then IntKind.i64.wrap (0 - a1.1) else a1.1 then a1.2 else if IntKind.i64.wrap (0 - a1.1)>a1.1 then IntKind.i64.wrap (0 - a1.1) else a1.1) - 1))>a0.1 then IntKind.i64.wrap (0 - IntKind.i64.wrap ((if IntKind.i64.wrap (0 - a1.2)>if a1.2>if IntKind.i64.wrap (0 - a1.1)>a1.1 then IntKind.i64.wrap (0 - a1.1) else a1.1 then a1.2 else if IntKind.i64.wrap (0 - a1.1)>a1.1 then IntKind.i64.wrap (0 - a1.1) else a1.1 then
 IntKind.i64.wrap (0 - a1.2) else if a1.2>if IntKind.i64.wrap (0 - a1.1)>a1.1 then IntKind.i64.wrap (0 - a1.1) else a1.1 then a1.2 else if IntKind.i64.wrap (0 - a1.1)>a1.1 then IntKind.i64.wrap (0 - a1.1) else a1.1) - 1)) else a0.1,if IntKind.i64.wrap ((if IntKind.i64.wrap (0 - a1.2)>if a1.2>if IntKind.i64.wrap (0 - a1.1)>a1.1 then IntKind.i64.wrap (0 - a1.1) else a1.1 then a1.2 else if IntKind.i64.wrap (0 - a1.1)>a1.1 then IntKind.i64.wrap (0 - a1.1) else a1.1 then IntKind.i64.wrap (0 - a1.2) else if a1.2>if IntKind.i64.wrap (0 - a1.1)>a1.1 then IntKind.i64.wrap (0 - a1.1) else a1.1 then a1.2 else if IntKind.i64.wrap (0 - a1.1)>a1.1 then IntKind.i64.wrap (0 - a1.1) else a1.1) - 1)<a0.2 then IntKind.i64.wrap ((if IntKind.i64.wrap (0 - a1.2)>if a1.2>if IntKind.i64.wrap (0 - a1.1)>a1.1 then IntKind.i64.wrap (0 - a1.1) else a1.1 then a1.2 else if IntKind.i64.wrap (0 - a1.1)>a1.1 then IntKind.i64.wrap (0 - a1.1) else a1.1 then IntKind.i64.wrap (0 - a1.2) else if a1.2>if IntKind.i64.wrap (0 - a1.1)>a1.1 then IntKind.i64.wrap (0 - a1.1) else a1.1 then a1.2 else if IntKind.i64.wrap (0 - a1.1)>a1.1 then IntKind.i64.wrap (0 - a1.1) else a1.1) - 1) else a0.2) else some (if IntKind.i64.wrap (0 - IntKind.i64.wrap ((if IntKind.i64.wrap (0 - a1.2)>if a1.2>if IntKind.i64.wrap (0 - a1.1)>a1.1 then IntKind.i64.wrap (0 - a1.1) else a1.1 then a1.2 else if IntKind.i64.wrap (0 - a1.1)>a1.1 then IntKind.i64.wrap (0 - a1.1) else a1.1 then IntKind.i64.wrap (0 - a1.2) else if a1.2>if IntKind.i64.wrap (0 - a1.1)>a1.1 then IntKind.i64.wrap (0 - a1.1) else a1.1 then a1.2
 else if IntKind.i64.wrap (0 - a1.1)>a1.1 then IntKind.i64.wrap (0 - a1.1) else a1.1) - 1))>a0.1 then IntKind.i64.wrap (0 - IntKind.i64.wrap ((if IntKind.i64.wrap (0 - a1.2)>if a1.2>if IntKind.i64.wrap (0 - a1.1)>a1.1 then IntKind.i64.wrap (0 - a1.1) else a1.1 then a1.2 else if IntKind.i64.wrap (0 - a1.1)>a1.1 then IntKind.i64.wrap (0 - a1.1) else a1.1 then IntKind.i64.wrap (0 - a1.2) else if a1.2>if IntKind.i64.wrap (0 - a1.1)>a1.1 then IntKind.i64.wrap (0 - a1.1) else a1.1 then a1.2 else if IntKind.i64.wrap (0 - a1.1)>a1.1 then IntKind.i64.wrap (0 - a1.1) else a1.1) - 1)) else a0.1,0) else bif decide (a0.2>0) then some (0,if IntKind.i64.wrap ((if IntKind.i64.wrap (0 - a1.2)>if a1.2>if IntKind.i64.wrap (0 - a1.1)>a1.1 then IntKind.i64.wrap (0 - a1.1) else a1.1 then a1.2 else if IntKind.i64.wrap (0 - a1.1)>a1.1 then IntKind.i64.wrap (0 - a1.1) else a1.1 then IntKind.i64.wrap (0 - a1.2) else if a1.2>if IntKind.i64.wrap (0 - a1.1)>a1.1 then IntKind.i64.wrap (0 - a1.1) else a1.1 then a1.2 else if IntKind.i64.wrap (0 - a1.1)>a1.1 then IntKind.i64.wrap (0 - a1.1) else a1.1) - 1)<a0.2 then IntKind.i64.wrap ((if IntKind.i64.wrap (0 - a1.2)>if a1.2>if IntKind.i64.wrap (0 - a1.1)>a1.1 then IntKind.i64.wrap (0 - a1.1) else a1.1 then a1.2 else if IntKind.i64.wrap (0 - a1.1)>a1.1 then IntKind.i64.wrap (0 - a1.1) else a1.1 then IntKind.i64.wrap (0 - a1.2) else if a1.2>if IntKind.i64.wrap (0 - a1.1)>a1.1 then IntKind.i64.wrap (0 - a1.1) else a1.1 then a1.2 else if IntKind.i64.wrap (0 - a1.1)>a1.1 then IntKind.i64.wrap (0 - a1.1) else a1.1) - 1) else a0.2) else some (0,0)
def ZvV (x:I×(I×Unit)):Option I:=ZC2 x.1 x.2.1
def ZC0 (a0:I) (a1:Int):Option Bool:=bif decide (a1≥a0.1) then some (decide (a1≤a0.2)) else some false
def Zp2 (x:I×(Int×Unit)):Option Bool:=ZC0 x.1 x.2.1
def ZLY:List Sh:=[.dat tI,.dat tI]
def ZOR:List Con:=[]
def ZuE (a0 a1:I):Option I:=bif a1.1 !=a1.2 then some (a0.1,a0.2) else bif a0.1==a1.1 then some (IntKind.i64.wrap (a0.1+1),a0.2) else bif a0.2==a1.1 then some (a0.1,IntKind.i64.wrap (a0.2 - 1)) else some (a0.1,a0.2)
def Zlh (x:I×(I×Unit)):Option I:=ZuE x.1 x.2.1
def ZyI:=conP true ZLY (.dat tI) Zlh
theorem ZM4:Zf Tryz.prog 202 ZyI:=Ze (calU ZOR [] 40 1048576 8 202) true (by rfl) (by rfl) (fun x r e=>(Zk _ _ _ _ _ _ _).trans ((show _=Zlh x by kernel_rfl).trans e)) (.inl rfl)
def ZNH:List Sh:=[.dat (.int .i64),.dat tI,.dat tI]
def ZQ6:List Con:=[⟨174,ZmO,Zq0⟩,⟨202,ZyI,ZM4⟩,⟨110,Yp,HW⟩,⟨153,Km,YC⟩]
def ZwX (a0:Int) (a1 a2:I):Option (I×(I×Unit)):=bif a0==1 then bif decide (a1.1>a1.2) then some ((1,0),(1,0),PUnit.unit) else bif decide (a2.1>a2.2) then some ((1,0),(1,0),PUnit.unit) else bif decide (a1.1>if IntKind.i64.wrap (a2.2 - 1)<a1.2 then IntKind.i64.wrap (a2.2 - 1) else a1.2) then some ((1,0),(1,0),PUnit.unit) else bif decide ((if IntKind.i64.wrap (a1.1+1)>a2.1 then IntKind.i64.wrap (a1.1+1) else a2.1)>a2.2) then some ((1,0),(1,0),PUnit.unit) else some ((a1.1,if IntKind.i64.wrap (a2.2 - 1)<a1.2 then IntKind.i64.wrap (a2.2 - 1) else a1.2),(if IntKind.i64.wrap (a1.1+1)>a2.1 then IntKind.i64.wrap (a1.1+1) else a2.1,a2.2),PUnit.unit) else bif a0==2 then bif decide (a1.1>a1.2) then some ((1,0),(1,0),PUnit.unit) else bif decide (a2.1>a2.2) then some ((1,0),(1,0),PUnit.unit) else bif decide (a1.1>if a2.2<a1.2 then a2.2 else a1.2) then some ((1,0),(1,0),PUnit.unit) else bif decide ((if a1.1>a2.1 then a1.1 else a2.1)>a2.2) then some ((1,0),(1,0),PUnit.unit) else some ((a1.1,if a2.2<a1.2 then a2.2 else a1.2),(if a1.1>a2.1 then a1.1 else a2.1,a2.2),PUnit.unit) else bif a0==5 then bif decide (a1.1>a1.2) then some ((1,0),(1,0),PUnit.unit) else bif decide (a2.1>a2.2) then some ((1,0),(1,0),PUnit.unit) else bif decide ((if a2.1>a1.1 then a2.1 else a1.1)>a1.2) then some ((1,0),(1,0),PUnit.unit) else bif decide (a2.1>if a1.2<a2.2 then a1.2 else a2.2) then some ((1,0),(1,0),PUnit.unit) else some ((if a2.1>a1.1 then a2.1 else a1.1,a1.2),(a2.1,if a1.2<a2.2 then a1.2 else a2.2),PUnit.unit) else bif a0==6 then bif decide (a1.1>a1.2) then some ((1,0),(1,0),PUnit.unit) else
 bif decide (a2.1>a2.2) then some ((1,0),(1,0),PUnit.unit) else bif decide ((if IntKind.i64.wrap (a2.1+1)>a1.1 then IntKind.i64.wrap (a2.1+1) else a1.1)>a1.2) then some ((1,0),(1,0),PUnit.unit) else bif decide (a2.1>if IntKind.i64.wrap (a1.2 - 1)<a2.2 then IntKind.i64.wrap (a1.2 - 1) else a2.2) then some ((1,0),(1,0),PUnit.unit) else some ((if IntKind.i64.wrap (a2.1+1)>a1.1 then IntKind.i64.wrap (a2.1+1) else a1.1,a1.2),(a2.1,if IntKind.i64.wrap (a1.2 - 1)<a2.2 then IntKind.i64.wrap (a1.2 - 1) else a2.2),PUnit.unit) else bif a0==3 then Za (ZH (a1,a2,())) none fun d4=>bif decide (a1.1>a1.2) then some ((1,0),(1,0),PUnit.unit) else bif decide (a2.1>a2.2) then some ((1,0),(1,0),PUnit.unit) else bif decide (d4.1>d4.2) then some ((1,0),(1,0),PUnit.unit) else bif decide (d4.1>d4.2) then some ((1,0),(1,0),PUnit.unit) else some ((d4.1,d4.2),(d4.1,d4.2),PUnit.unit) else bif a0==4 then Za (Zlh (a1,a2,())) none fun d4=>Za (Zlh (a2,a1,())) none fun d5=>bif decide (a1.1>a1.2) then some ((1,0),(1,0),PUnit.unit) else bif decide (a2.1>a2.2) then some ((1,0),(1,0),PUnit.unit) else bif decide (d4.1>d4.2) then some ((1,0),(1,0),PUnit.unit) else bif decide (d5.1>d5.2) then some ((1,0),(1,0),PUnit.unit) else some ((d4.1,d4.2),(d5.1,d5.2),PUnit.unit) else some ((1,0),(1,0),PUnit.unit)
def ZX (x:(Int×(I×(I×Unit)))):Option (I×(I×Unit)):=ZwX x.1 x.2.1 x.2.2.1
def ZAo:=conP true ZNH (.tup [.dat tI,.dat tI]) ZX
theorem ZOH:Zf Tryz.prog 179 ZAo:=Ze (calU ZQ6 [] 40 1048576 8 179) true (by rfl) (by rfl) (fun x r e=>(Zk _ _ _ _ _ _ _).trans ((show _=ZX x by kernel_rfl).trans e)) (.inl rfl)
def ZzP (a0 a1:Int):Option I:=bif decide (a0>a1) then some (1,0) else some (a0,a1)
def Z3 (x:Int×(Int×Unit)):Option I:=ZzP x.1 x.2.1
def ZzO (a0 a1:Int):Option (I×(Bool×Unit)):=Za (Z3 (if -2147483648>a0 then -2147483648 else a0,if 2147483647<a1 then 2147483647 else a1,())) none fun d3=>bif decide (a0 < -2147483648) then some ((d3.1,d3.2),true,PUnit.unit) else some ((d3.1,d3.2),decide (a1>2147483647),PUnit.unit)
def HO (x:Int×(Int×Unit)):Option (I×(Bool×Unit)):=ZzO x.1 x.2.1
abbrev HS:=(Int×Int×Int×(List Int))
abbrev WR:=(Int×Int)
def ZnX (s9 s10 s11:Int) (b0:List Int):Option ((Int×Int×Int×(List Int))⊕(Int×Int)):=bif decide (s11<4) then bif decide (0≤s11) then Za b0[s11.toNat]? none fun d6=>Za b0[s11.toNat]? none fun d7=>bif decide (0≤s11) then Za b0[s11.toNat]? none fun d8=>Za b0[s11.toNat]? none fun d9=>some (.inl (if d7<s9 then d7 else s9,if d9>s10 then d9 else s10,IntKind.i64.wrap (s11+1),b0)) else none else none else some (.inr (s9,s10))
def Y8:HS→Option (HS⊕WR):=fun (a,b,c,d)=>ZnX a b c d
def HQ (x:HS):Option WR:=Zh Y8 Zl x
def ZnE (a0 a1:I) (a2:Bool):Option (Int×(Int×Unit)):=bif a2 then bif decide (a1.1=0) then none else bif decide (a1.2=0) then none else bif decide (a1.1=0) then none else bif decide (a1.2=0) then none else Za (HQ (IntKind.i64.wrap (Int.tdiv a0.1 a1.1),IntKind.i64.wrap (Int.tdiv a0.1 a1.1),1,[IntKind.i64.wrap (Int.tdiv a0.1 a1.1),IntKind.i64.wrap (Int.tdiv a0.1 a1.2),IntKind.i64.wrap (Int.tdiv a0.2 a1.1),IntKind.i64.wrap (Int.tdiv a0.2 a1.2)])) none fun d5=>some (d5.1,d5.2,PUnit.unit) else Za (HQ (IntKind.i64.wrap (a0.1*a1.1),IntKind.i64.wrap (a0.1*a1.1),1,[IntKind.i64.wrap (a0.1*a1.1),IntKind.i64.wrap (a0.1*a1.2),IntKind.i64.wrap (a0.2*a1.1),IntKind.i64.wrap (a0.2*a1.2)])) none fun d5=>some (d5.1,d5.2,PUnit.unit)
def Zfh (x:(I×(I×(Bool×Unit)))):Option (Int×(Int×Unit)):=ZnE x.1 x.2.1 x.2.2.1
def ZzN (a0 a1:I):Option I:=Za (Z3 (if a1.1>a0.1 then a1.1 else a0.1,if a1.2<a0.2 then a1.2 else a0.2,())) none fun d3=>some (d3.1,d3.2)
def ZY (x:I×(I×Unit)):Option I:=ZzN x.1 x.2.1
def ZC1 (a0 a1:I):Option (I×(Bool×Unit)):=Za (ZY (a1,(1,2147483647),())) none fun d3=>bif !decide (d3.1>d3.2) then Za (Zfh (a0,d3,true,())) none fun d4=>Za (HO (d4.1,d4.2.1,())) none fun d5=>Za (ZY (a1,(-2147483648,-1),())) none fun d6=>bif !decide (d6.1>d6.2) then Za (Zfh (a0,d6,true,())) none fun d7=>Za (HO (d7.1,d7.2.1,())) none fun d8=>Za (Zz (d5.1,d8.1,())) none fun d9=>bif d5.2.1 then some ((d9.1,d9.2),true,PUnit.unit) else some ((d9.1,d9.2),d8.2.1,PUnit.unit) else some ((d5.1.1,d5.1.2),d5.2.1,PUnit.unit) else Za (ZY (a1,(-2147483648,-1),())) none fun d4=>bif !decide (d4.1>d4.2) then Za (Zfh (a0,d4,true,())) none fun d5=>Za (HO (d5.1,d5.2.1,())) none fun d6=>some ((d6.1.1,d6.1.2),d6.2.1,PUnit.unit) else some ((1,0),false,PUnit.unit)
def ZvU (x:I×(I×Unit)):Option (I×(Bool×Unit)):=ZC1 x.1 x.2.1
def ZHB (a0:Int) (a1 a2:I):Option (I×(Bool×(Bool×Unit))):=bif decide (a1.1>a1.2) then some ((1,0),false,false,PUnit.unit) else bif decide (a2.1>a2.2) then some ((1,0),false,false,PUnit.unit) else bif a0==1 then Za (HO (IntKind.i64.wrap (a1.1+a2.1),IntKind.i64.wrap (a1.2+a2.2),())) none fun d4=>some ((d4.1.1,d4.1.2),d4.2.1,false,PUnit.unit) else bif a0==2 then Za (HO (IntKind.i64.wrap (a1.1 - a2.2),IntKind.i64.wrap (a1.2 - a2.1),())) none fun d4=>some ((d4.1.1,d4.1.2),d4.2.1,false,PUnit.unit) else bif a0==3 then Za (HO (if IntKind.i64.wrap (a1.2*a2.2)<if IntKind.i64.wrap (a1.2*a2.1)<if IntKind.i64.wrap (a1.1*a2.2)<IntKind.i64.wrap (a1.1*a2.1) then IntKind.i64.wrap (a1.1*a2.2) else IntKind.i64.wrap (a1.1*a2.1) then IntKind.i64.wrap (a1.2*a2.1) else if IntKind.i64.wrap (a1.1*a2.2)<IntKind.i64.wrap (a1.1*a2.1) then IntKind.i64.wrap (a1.1*a2.2) else IntKind.i64.wrap (a1.1*a2.1) then IntKind.i64.wrap (a1.2*a2.2) else if IntKind.i64.wrap (a1.2*a2.1)<if IntKind.i64.wrap (a1.1*a2.2)<IntKind.i64.wrap (a1.1*a2.1) then IntKind.i64.wrap (a1.1*a2.2) else IntKind.i64.wrap (a1.1*a2.1) then IntKind.i64.wrap (a1.2*a2.1) else if IntKind.i64.wrap (a1.1*a2.2)<IntKind.i64.wrap (a1.1*a2.1) then IntKind.i64.wrap (a1.1*a2.2) else IntKind.i64.wrap (a1.1*a2.1),if IntKind.i64.wrap (a1.2*a2.2)>if IntKind.i64.wrap (a1.2*a2.1)>if IntKind.i64.wrap (a1.1*a2.2)>IntKind.i64.wrap (a1.1*a2.1) then IntKind.i64.wrap (a1.1*a2.2) else IntKind.i64.wrap (a1.1*a2.1) then IntKind.i64.wrap (a1.2*a2.1)
 else if IntKind.i64.wrap (a1.1*a2.2)>IntKind.i64.wrap (a1.1*a2.1) then IntKind.i64.wrap (a1.1*a2.2) else IntKind.i64.wrap (a1.1*a2.1) then IntKind.i64.wrap (a1.2*a2.2) else if IntKind.i64.wrap (a1.2*a2.1)>if IntKind.i64.wrap (a1.1*a2.2)>IntKind.i64.wrap (a1.1*a2.1) then IntKind.i64.wrap (a1.1*a2.2) else IntKind.i64.wrap (a1.1*a2.1) then IntKind.i64.wrap (a1.2*a2.1) else if IntKind.i64.wrap (a1.1*a2.2)>IntKind.i64.wrap (a1.1*a2.1) then IntKind.i64.wrap (a1.1*a2.2) else IntKind.i64.wrap (a1.1*a2.1),())) none fun d4=>some ((d4.1.1,d4.1.2),d4.2.1,false,PUnit.unit) else bif a0==4 then Za (ZvU (a1,a2,())) none fun d4=>Za (Zp2 (a2,0,())) none fun d5=>some ((d4.1.1,d4.1.2),d4.2.1,d5,PUnit.unit) else bif a0==5 then Za (ZvV (a1,a2,())) none fun d4=>Za (Zp2 (a2,0,())) none fun d5=>some ((d4.1,d4.2),false,d5,PUnit.unit) else some ((1,0),false,false,PUnit.unit)
def ZyD (x:(Int×(I×(I×Unit)))):Option (I×(Bool×(Bool×Unit))):=ZHB x.1 x.2.1 x.2.2.1
def Zw2 (a0 a1:I):Option I:=bif a1.1 !=a1.2 then some (a0.1,a0.2) else bif a1.1==a0.1 then bif a1.1==a0.2 then Za (Z3 (IntKind.i64.wrap (a0.1+1),IntKind.i64.wrap (a0.2 - 1),())) none fun d3=>some (d3.1,d3.2) else Za (Z3 (IntKind.i64.wrap (a0.1+1),a0.2,())) none fun d3=>some (d3.1,d3.2) else bif a1.1==a0.2 then Za (Z3 (a0.1,IntKind.i64.wrap (a0.2 - 1),())) none fun d3=>some (d3.1,d3.2) else Za (Z3 (a0.1,a0.2,())) none fun d3=>some (d3.1,d3.2)
def ZmK (x:I×(I×Unit)):Option I:=Zw2 x.1 x.2.1
def ZuI (a0:Int) (a1 a2:I):Option (I×(I×Unit)):=bif decide (a1.1>a1.2) then some ((1,0),(1,0),PUnit.unit) else bif decide (a2.1>a2.2) then some ((1,0),(1,0),PUnit.unit) else bif a0==1 then Za (Z3 (a1.1,if IntKind.i64.wrap (a2.2 - 1)<a1.2 then IntKind.i64.wrap (a2.2 - 1) else a1.2,())) none fun d4=>Za (Z3 (if IntKind.i64.wrap (a1.1+1)>a2.1 then IntKind.i64.wrap (a1.1+1) else a2.1,a2.2,())) none fun d5=>bif decide (d4.1>d4.2) then some ((1,0),(1,0),PUnit.unit) else bif decide (d5.1>d5.2) then some ((1,0),(1,0),PUnit.unit) else some ((d4.1,d4.2),(d5.1,d5.2),PUnit.unit) else bif a0==2 then Za (Z3 (a1.1,if a2.2<a1.2 then a2.2 else a1.2,())) none fun d4=>Za (Z3 (if a1.1>a2.1 then a1.1 else a2.1,a2.2,())) none fun d5=>bif decide (d4.1>d4.2) then some ((1,0),(1,0),PUnit.unit) else bif decide (d5.1>d5.2) then some ((1,0),(1,0),PUnit.unit) else some ((d4.1,d4.2),(d5.1,d5.2),PUnit.unit) else bif a0==6 then Za (Z3 (if IntKind.i64.wrap (a2.1+1)>a1.1 then IntKind.i64.wrap (a2.1+1) else a1.1,a1.2,())) none fun d4=>Za (Z3 (a2.1,if IntKind.i64.wrap (a1.2 - 1)<a2.2 then IntKind.i64.wrap (a1.2 - 1) else a2.2,())) none fun d5=>bif decide (d4.1>d4.2) then some ((1,0),(1,0),PUnit.unit) else bif decide (d5.1>d5.2) then some ((1,0),(1,0),PUnit.unit) else some ((d4.1,d4.2),(d5.1,d5.2),PUnit.unit) else bif a0==5 then Za (Z3 (if a2.1>a1.1 then a2.1 else a1.1,a1.2,())) none fun d4=>Za (Z3 (a2.1,if a1.2<a2.2 then a1.2 else a2.2,())) none fun d5=>bif decide (d4.1>d4.2) then some ((1,0),(1,0),PUnit.unit)
 else bif decide (d5.1>d5.2) then some ((1,0),(1,0),PUnit.unit) else some ((d4.1,d4.2),(d5.1,d5.2),PUnit.unit) else bif a0==3 then Za (ZY (a1,a2,())) none fun d4=>bif decide (d4.1>d4.2) then some ((1,0),(1,0),PUnit.unit) else bif decide (d4.1>d4.2) then some ((1,0),(1,0),PUnit.unit) else some ((d4.1,d4.2),(d4.1,d4.2),PUnit.unit) else bif a0==4 then Za (ZmK (a1,a2,())) none fun d4=>Za (ZmK (a2,a1,())) none fun d5=>bif decide (d4.1>d4.2) then some ((1,0),(1,0),PUnit.unit) else bif decide (d5.1>d5.2) then some ((1,0),(1,0),PUnit.unit) else some ((d4.1,d4.2),(d5.1,d5.2),PUnit.unit) else some ((1,0),(1,0),PUnit.unit)
def Zli (x:(Int×(I×(I×Unit)))):Option (I×(I×Unit)):=ZuI x.1 x.2.1 x.2.2.1
def ZMr (a0 a1:I):Option Bool:=bif decide (a0.1>a0.2) then some true else bif decide (a0.1≥a1.1) then some (decide (a0.2≤a1.2)) else some false
def JX (x:I×(I×Unit)):Option Bool:=ZMr x.1 x.2.1
theorem Qq {σ α Y:Type} {f:Nat→σ→α→Option (σ⊕Y)} {fin:σ→Option Y} {i:Nat} {d:α} {r:List α} {s s':σ} (h:f i s d=some (.inl s')):Zp f fin i (d::r) s=Zp f fin (i+1) r s':=by
 rw [Zp,h]
theorem ZIV {α:Type} {p:Prop} [Decidable p] (h:p) (a b:α):(bif decide p then a else b)=a:=by rw [dT0 h];rfl
theorem Zkj (x y:I):ZHy x y=some (leqB x y):=by
 unfold ZHy leqB Zd
 cases decide (x.1>x.2)
 ·cases decide (x.1≥y.1)<;>rfl
 ·rfl
theorem ZkI (x y:I):ZMr x y=some (leqB x y):=Zkj x y
theorem W0 (x y:I):ZCX x y=some (iMeet x y):=by
 unfold ZCX iMeet Zd
 simp only [cond_eq_ite,ZfC,ZfD,nn]
 (repeat' split)<;>simp_all
theorem Ztg (a b:Int):ZzP a b=some (iSpan a b):=by
 unfold ZzP iSpan
 simp only [cond_eq_ite,decide_eq_true_eq,nn]
 split<;>rfl
theorem Zfd (x y:I):ZzN x y=some (mSpan x y):=by
 unfold ZzN Z3 mSpan
 simp only [Ztg,Zb,ZfC,ZfD]
theorem JP (x y:I):ZzM x y=some (rJoin x y):=by
 unfold ZzM rJoin Zd
 simp only [cond_eq_ite,ZfC,ZfD]
 (repeat' split)<;>simp_all
theorem ZSX (b0 b01:Int) (L:List I):∀ (l:List I) (i:Nat) (a:I),Zp (fun i s d=>HE b0 b01 L i s.1 s.2 d) (fun s=>ZlL b0 b01 L s.1 s.2) i l a =
  some (b0,b01,(l.foldl (fun a d=>if Zd d then a else if Zd a then d else (mn a.1 d.1,mx a.2 d.2)) a).1,(l.foldl (fun a d=>if Zd d then a else if Zd a then d else (mn a.1 d.1,mx a.2 d.2)) a).2)
 | [],i,a=>rfl
 | d::r,i,a=>by
  have h:HE b0 b01 L i a.1 a.2 d=some (.inl (if Zd d then a else if Zd a then d else (mn a.1 d.1,mx a.2 d.2))):=by
   unfold HE Zd
   simp only [cond_eq_ite,ZfC,ZfD]
   (repeat' split)<;>simp_all
  rw [Zp]
  simp only [h]
  exact ZSX b0 b01 L r (i+1) _
theorem ZYn (l:List I) (hl:l.length<9223372036854775807):Zv2 l=some (l.foldl (fun a d=>if Zd d then a else if Zd a then d else (mn a.1 d.1,mx a.2 d.2)) nn):=by
 unfold Zv2
 have:=ZGb 0 0 l nn hl
 have e:ZcC (l,(l.length:Int),0,0,0,1,0)=_:=this
 rw [e]
 unfold Zl1
 rw [ZSX 0 0 l l 0 nn]
 rfl
theorem WF (x y:I):Zv2 [x,y]=some (Zg x y):=by
 rw [ZYn [x,y] (by simp)]
 simp only [List.foldl_cons,List.foldl_nil]
 have hn:Zd nn=true:=rfl
 unfold Zg
 cases hx:Zd x<;>cases hy:Zd y<;>simp [hn,hx,hy]
theorem ZKx (n:Int):ZCY [n]=some (fitB n):=by
 unfold ZCY
 have e:ZdR ([n],1,0)=_:=ZIk [n] () (by simp)
 have e2:(([n].length:Nat):Int)=1:=rfl
 rw [e2,e]
 unfold Znn fitB
 simp only [Zp,Zhy,ZmT]
 by_cases h1:n < -2147483648
 ·rw [dT0 h1,dF0 (show ¬ n≥-2147483648 by omega)];rfl
 ·by_cases h2:n>2147483647
  ·rw [dF0 h1,dT0 h2,dT0 (show n≥-2147483648 by omega),dF0 (show ¬ n≤2147483647 by omega)];rfl
  ·rw [dF0 h1,dF0 h2,dT0 (show n≥-2147483648 by omega),dT0 (show n≤2147483647 by omega)];rfl
theorem ZZ5 (n:Int) (h:fitB n=true):ZLm [n]=some (n,n):=by
 unfold ZLm
 have e:Zhh ([n],(([n]:List Int).length:Int),0,0,0,1,0)=_:=ZLG 0 0 [n] nn (by simp)
 rw [e]
 unfold Zpl
 simp only [Zp,Zkw,Zpc,Zg9,ZM,ZKx,h,Zb,cond_true,WF]
 have:Zg (nn.1,nn.2) (n,n)=(n,n):=Zpt (Int.le_refl n)
 rw [this]
theorem wr2 {a b:Int} (ha:a.natAbs≤2147483648) (hb:b.natAbs≤2147483648):IntKind.i64.wrap (a+b)=a+b∧IntKind.i64.wrap (a - b)=a - b∧IntKind.i64.wrap (a*b)=a*b∧IntKind.i64.wrap (a.tdiv b)=a.tdiv b:=
 ⟨wr (by omega),wr (by omega),wr (Z29 ha hb),wr (Nat.le_trans (Z2J ha) (by decide))⟩
theorem ZMG (x y:I) (hx:isB x=true) (hy:isB y=true):Zqt x y=some ((quoV x y).1,(quoV x y).2,()):=by
 obtain ⟨x1,x2⟩:=YX hx
 obtain ⟨y1,y2⟩:=YX hy
 unfold Zqt
 have e:Y3 (false,(([(1,2147483647),(-2147483648,-1)]:List I).length:Int),0,x.1,x.2,y.1,y.2,0,0,1,0,[(1,2147483647),(-2147483648,-1)])=_:=ZxI x.1 x.2 y.1 y.2 0 0 [(1,2147483647),(-2147483648,-1)] (false,1,0) (by simp)
 rw [e]
 unfold ZfE
 have one:∀ (p:I) (i:Nat) (L:List I) (o:Bool) (v:I),(∀ n,p.1≤n→n≤p.2→n≠0)→p.1.natAbs≤2147483648→p.2.natAbs≤2147483648→JG x.1 x.2 y.1 y.2 0 0 L i o v.1 v.2 p =
   some (.inl (if Zd (iMeet y p) then (o,v.1,v.2) else (o || !leqB (Kf x (iMeet y p)) aa,(Zg v (iMeet (Kf x (iMeet y p)) aa)).1,(Zg v (iMeet (Kf x (iMeet y p)) aa)).2))):=by
  intro p i L o v hp p1 p2
  unfold JG
  simp only [ZH,W0,Zb]
  have hm:(iMeet ((y.1,y.2):I) p)=iMeet y p:=rfl
  rw [hm]
  cases he:Zd (iMeet y p)
  ·have h0:=ZS he
   have hin:p.1≤(iMeet y p).1∧(iMeet y p).2≤p.2∧y.1≤(iMeet y p).1∧(iMeet y p).2≤y.2:=by
    unfold iMeet at he ⊢
    (repeat' split at he)<;>first | (simp_all [Zd,nn];done) | skip
    rename_i k1 k2 k3
    rw [if_neg k1,if_neg k2,if_neg k3]
    unfold mx mn
    refine ⟨?_,?_,?_,?_⟩<;>simp only<;>split<;>omega
   generalize iMeet y p=m at *
   have m1:m.1≠0:=hp _ (by omega) (by omega)
   have m2:m.2≠0:=hp _ (by omega) (by omega)
   have a1:m.1.natAbs≤2147483648:=by omega
   have a2:m.2.natAbs≤2147483648:=by omega
   have w1:=(wr2 x1 a1).2.2.2
   have w2:=(wr2 x1 a2).2.2.2
   have w3:=(wr2 x2 a1).2.2.2
   have w4:=(wr2 x2 a2).2.2.2
   have h1:¬ m.1>m.2:=by omega
   simp only [dF0 h1,dF0 m1,dF0 m2,Bool.not_false,cond_true,cond_false,w1,w2,w3,w4,ZfC,ZfD,ZM,QB,WF,Zkj,Zb]
   rw [show ((-2147483648,2147483647):I)=aa from rfl,show (mn (mn (mn (x.1.tdiv m.1) (x.1.tdiv m.2)) (x.2.tdiv m.1)) (x.2.tdiv m.2),mx (mx (mx (x.1.tdiv m.1) (x.1.tdiv m.2)) (x.2.tdiv m.1)) (x.2.tdiv m.2))=Kf x m from rfl]
   cases o<;>rfl
  ·have h1:(iMeet y p).1>(iMeet y p).2:=Zwo.1 he
   rw [dT0 h1]
   rfl
 have o1:=one pP 0 [pP,pM] false nn (fun n h1 h2=>by unfold pP at h1;simp only at h1;omega) (by decide) (by decide)
 have o2:=fun o v=>one pM 1 [pP,pM] o v (fun n h1 h2=>by unfold pM at h2;simp only at h2;omega) (by decide) (by decide)
 have key:Zp (fun i s d=>JG x.1 x.2 y.1 y.2 0 0 [(1,2147483647),(-2147483648,-1)] i s.1 s.2.1 s.2.2 d) (fun s=>ZfB x.1 x.2 y.1 y.2 0 0 [(1,2147483647),(-2147483648,-1)] s.1 s.2.1 s.2.2) 0 [(1,2147483647),(-2147483648,-1)] (false,1,0)=some ((quoV x y).2,0,0,(quoV x y).1.1,(quoV x y).1.2):=by
  refine (Qq o1).trans ?_
  unfold quoV ZqT
  cases hP:Zd (iMeet y pP)
  ·refine (Qq (o2 (!leqB (Kf x (iMeet y pP)) aa) (Zg nn (iMeet (Kf x (iMeet y pP)) aa)))).trans ?_
   cases hM:Zd (iMeet y pM)<;>rfl
  ·refine (Qq (o2 false nn)).trans ?_
   cases hM:Zd (iMeet y pM)<;>rfl
 rw [key]
 rfl
theorem ZXj {a b c d:Int} {n:Nat} (ha:a.natAbs≤n) (hb:b.natAbs≤n) (hc:c.natAbs≤n) (hd:d.natAbs≤n):(mx (mx (mx a b) c) d).natAbs≤n:=by
 unfold mx
 (repeat' split)<;>omega
theorem ZVx (x y:I) (hx:isB x=true) (hy:isB y=true):ZzH x y=some (remI x y):=by
 obtain ⟨x1,x2⟩:=YX hx
 obtain ⟨y1,y2⟩:=YX hy
 have w1:IntKind.i64.wrap (0 - y.1) = -y.1:=by rw [wr (by omega)];omega
 have w2:IntKind.i64.wrap (0 - y.2) = -y.2:=by rw [wr (by omega)];omega
 unfold ZzH remI
 simp only [w1,w2,ZfD,ZfC]
 have hM:=ZXj (n:=2147483648) (a:=y.2) (b:=-y.2) (c:=y.1) (d:=-y.1) y2 (by omega) y1 (by omega)
 generalize mx (mx (mx y.2 (-y.2)) y.1) (-y.1)=M at *
 have w3:IntKind.i64.wrap (M - 1)=M - 1:=wr (by omega)
 have w4:IntKind.i64.wrap (0 - (M - 1)) = -(M - 1):=by rw [wr (by omega)];omega
 simp only [w3,w4,ZfD,ZfC,cond_eq_ite,Bool.and_eq_true,beq_iff_eq,decide_eq_true_eq]
 by_cases h1:y.1=0∧y.2=0
 ·rw [if_pos h1,if_pos h1];rfl
 ·rw [if_neg h1,if_neg h1]
  by_cases h2:x.1<0<;>by_cases h3:x.2>0<;>simp [h2,h3]
theorem ZYq (x y:I) (hx:isB x=true) (hy:isB y=true):ZC2 x y=some (remI x y):=by
 obtain ⟨x1,x2⟩:=YX hx
 obtain ⟨y1,y2⟩:=YX hy
 have w1:IntKind.i64.wrap (0 - y.1) = -y.1:=by rw [wr (by omega)];omega
 have w2:IntKind.i64.wrap (0 - y.2) = -y.2:=by rw [wr (by omega)];omega
 unfold ZC2 remI
 simp only [w1,w2,ZfD,ZfC]
 have hM:=ZXj (n:=2147483648) (a:=y.2) (b:=-y.2) (c:=y.1) (d:=-y.1) y2 (by omega) y1 (by omega)
 have hE:mx (mx (mx y.1 (-y.1)) y.2) (-y.2)=mx (mx (mx y.2 (-y.2)) y.1) (-y.1):=by unfold mx;(repeat' split)<;>omega
 rw [hE]
 generalize mx (mx (mx y.2 (-y.2)) y.1) (-y.1)=M at *
 have w3:IntKind.i64.wrap (M - 1)=M - 1:=wr (by omega)
 have w4:IntKind.i64.wrap (0 - (M - 1)) = -(M - 1):=by rw [wr (by omega)];omega
 simp only [w3,w4,ZfD,ZfC,cond_eq_ite,Bool.and_eq_true,beq_iff_eq,decide_eq_true_eq]
 by_cases h0:y.1=0<;>by_cases h1:y.2=0<;>by_cases h2:x.1<0<;>by_cases h3:x.2>0<;>simp [h0,h1,h2,h3,nn]
theorem ZZ4 (x:I) (n:Int):ZHx x n=some (hasB x n):=by
 unfold ZHx hasB
 cases decide (n≥x.1)<;>rfl
theorem ZYo (x:I) (n:Int):ZC0 x n=some (hasB x n):=by
 unfold ZC0 hasB
 cases decide (n≥x.1)<;>rfl
theorem ZS9 (op:Int) (x y:I) (hx:isB x=true) (hy:isB y=true):ZLl op x y=some ((doI op x y).1,(doI op x y).2.1,(doI op x y).2.2,()):=by
 obtain ⟨x1,x2⟩:=YX hx
 obtain ⟨y1,y2⟩:=YX hy
 have a11:=wr2 x1 y1
 have a12:=wr2 x1 y2
 have a21:=wr2 x2 y1
 have a22:=wr2 x2 y2
 unfold ZLl doI
 simp only [a11.1,a11.2.1,a11.2.2.1,a12.1,a12.2.1,a12.2.2.1,a21.1,a21.2.1,a21.2.2.1,a22.1,a22.2.1,a22.2.2.1,ZfC,ZfD,ZH,QB,Zmt,Ztj,ZsZ,W0,Zkj,ZMG x y hx hy,ZVx x y hx hy,ZZ4,Zb]
 rw [show ((-2147483648,2147483647):I)=aa from rfl]
 by_cases h1:x.1>x.2
 ·rw [dT0 h1,show Zd x=true from Zwo.2 h1];rfl
 by_cases h2:y.1>y.2
 ·rw [dF0 h1,dT0 h2,show Zd x=false from by simp [Zd,h1],show Zd y=true from Zwo.2 h2];rfl
 rw [dF0 h1,dF0 h2,show Zd x=false from by simp [Zd,h1],show Zd y=false from by simp [Zd,h2]]
 simp only [cond_false,Bool.or_self,Bool.false_eq_true,if_false]
 by_cases o1:op=1
 ·subst o1;rfl
 by_cases o2:op=2
 ·subst o2;rfl
 by_cases o3:op=3
 ·subst o3;rfl
 by_cases o4:op=4
 ·subst o4;rfl
 by_cases o5:op=5
 ·subst o5;rfl
 simp only [o1,o2,o3,o4,o5,if_false,beq_eq_false_iff_ne.2 o1,beq_eq_false_iff_ne.2 o2,beq_eq_false_iff_ne.2 o3,beq_eq_false_iff_ne.2 o4,beq_eq_false_iff_ne.2 o5,cond_false]
 rfl
theorem Ztf (a b:Int):ZzO a b=some (clipV a b,clipO a b,()):=by
 unfold ZzO Z3 clipV clipO
 simp only [Ztg,Zb,ZfC,ZfD]
 cases decide (a < -2147483648)<;>rfl
theorem ZSg (v0 v1 v2 v3:Int):HQ (v0,v0,1,[v0,v1,v2,v3])=some (mn (mn (mn v0 v1) v2) v3,mx (mx (mx v0 v1) v2) v3):=by
 unfold HQ
 refine ZqD 4 Zl _ _ (by decide) ?_
 have go:∀ (n:Nat) (i:Nat) (lo hi d:Int) (X:List Int),X[i]? = some d→i<4→Zh Y8 (n+1) (lo,hi,(i:Int),X) =
   Zh Y8 n (mn lo d,mx hi d,((i+1:Nat):Int),X):=by
  intro n i lo hi d X hx hi4
  rw [Zh]
  simp only [Y8,ZnX]
  rw [show decide ((i:Int)<4)=true from dT0 (by omega),show decide (0≤(i:Int))=true from dT0 (by omega),tN0,hx]
  rw [Zq hi4 (by omega)]
  rfl
 have e1:=go 3 1 v0 v0 v1 [v0,v1,v2,v3] rfl (by decide)
 have e2:=go 2 2 (mn v0 v1) (mx v0 v1) v2 [v0,v1,v2,v3] rfl (by decide)
 have e3:=go 1 3 (mn (mn v0 v1) v2) (mx (mx v0 v1) v2) v3 [v0,v1,v2,v3] rfl (by decide)
 exact e1.trans (e2.trans (e3.trans rfl))
theorem ZOm (x y:I) (x1:x.1.natAbs≤2147483648) (x2:x.2.natAbs≤2147483648) (y1:y.1.natAbs≤2147483648) (y2:y.2.natAbs≤2147483648) (hz:noZ y=true):ZnE x y true=some ((Kf x y).1,(Kf x y).2,()):=by
 simp only [noZ,Bool.and_eq_true,Bool.not_eq_true',beq_eq_false_iff_ne] at hz
 have a11:=wr2 x1 y1
 have a12:=wr2 x1 y2
 have a21:=wr2 x2 y1
 have a22:=wr2 x2 y2
 unfold ZnE
 simp only [a11.2.2.2,a12.2.2.2,a21.2.2.2,a22.2.2.2,cond_true,dF0 hz.1,dF0 hz.2,cond_false,ZSg,Zb]
 rfl
theorem ZYp (x y:I) (hx:isB x=true) (hy:isB y=true):ZC1 x y=some ((rdivV x y).1,(rdivV x y).2,()):=by
 obtain ⟨x1,x2⟩:=YX hx
 have cor:∀ p,isB p=true→Zd (mSpan y p)=false→noZ (mSpan y p)=true→ZnE x (mSpan y p) true=some ((Kf x (mSpan y p)).1,(Kf x (mSpan y p)).2,()):=fun p hp he hz=>by
  obtain ⟨q1,q2⟩:=YX (Znd hy hp he)
  exact ZOm x _ x1 x2 q1 q2 hz
 unfold ZC1 rdivV ZMU
 simp only [ZY,Zfd,Zb,Zfh]
 rw [show ((1,2147483647):I)=pP from rfl,show ((-2147483648,-1):I)=pM from rfl]
 have hE:∀ z:I,decide (z.1>z.2)=Zd z:=fun _=>rfl
 simp only [hE]
 cases hP:Zd (mSpan y pP)
 ·simp only [Bool.not_false,cond_true,cor pP rfl hP (ZZZ hP),Zb,HO,Ztf]
  cases hM:Zd (mSpan y pM)
  ·simp only [Bool.not_false,cond_true,cor pM rfl hM (ZPA hM),Zb,Ztf,Zz,JP,Bool.false_eq_true,if_false]
   cases clipO (Kf x (mSpan y pP)).1 (Kf x (mSpan y pP)).2<;>rfl
  ·rfl
 ·simp only [Bool.not_true,cond_false]
  cases hM:Zd (mSpan y pM)
  ·simp only [Bool.not_false,cond_true,cor pM rfl hM (ZPA hM),Zb,HO,Ztf,Bool.false_eq_true,if_false,if_true]
   have:rJoin nn (clipV (Kf x (mSpan y pM)).1 (Kf x (mSpan y pM)).2)=clipV (Kf x (mSpan y pM)).1 (Kf x (mSpan y pM)).2:=rfl
   rw [this]
   rfl
  ·rfl
theorem ZZ6 (op:Int) (x y:I) (hx:isB x=true) (hy:isB y=true):ZHB op x y=some ((doI op x y).1,(doI op x y).2.1,(doI op x y).2.2,()):=by
 rw [Z4e]
 obtain ⟨x1,x2⟩:=YX hx
 obtain ⟨y1,y2⟩:=YX hy
 have a11:=wr2 x1 y1
 have a12:=wr2 x1 y2
 have a21:=wr2 x2 y1
 have a22:=wr2 x2 y2
 unfold ZHB rdoI
 simp only [a11.1,a11.2.1,a11.2.2.1,a12.1,a12.2.1,a12.2.2.1,a21.1,a21.2.1,a21.2.2.1,a22.1,a22.2.1,a22.2.2.1,ZfC,ZfD,HO,Ztf,ZvU,Zp2,ZvV,ZYp x y hx hy,ZYq x y hx hy,ZYo,Zb]
 by_cases h1:x.1>x.2
 ·rw [dT0 h1,show Zd x=true from Zwo.2 h1];rfl
 by_cases h2:y.1>y.2
 ·rw [dF0 h1,dT0 h2,show Zd x=false from by simp [Zd,h1],show Zd y=true from Zwo.2 h2];rfl
 rw [dF0 h1,dF0 h2,show Zd x=false from by simp [Zd,h1],show Zd y=false from by simp [Zd,h2]]
 simp only [cond_false,Bool.or_self,Bool.false_eq_true,if_false]
 by_cases o1:op=1
 ·subst o1;rfl
 by_cases o2:op=2
 ·subst o2;rfl
 by_cases o3:op=3
 ·subst o3;rfl
 by_cases o4:op=4
 ·subst o4;rfl
 by_cases o5:op=5
 ·subst o5;rfl
 simp only [o1,o2,o3,o4,o5,if_false,beq_eq_false_iff_ne.2 o1,beq_eq_false_iff_ne.2 o2,beq_eq_false_iff_ne.2 o3,beq_eq_false_iff_ne.2 o4,beq_eq_false_iff_ne.2 o5,cond_false]
 rfl
def bitV (m:Int):Int:=if 0≤m∧m<31 then ((2 ^ m.toNat:Nat):Int) else 0
theorem Z3g (m:Int) (h:0≤m∧m<31):IntKind.i64.wrap (1*2 ^ Min.min (Int.toNat m) IntKind.i64.bits)=((2 ^ m.toNat:Nat):Int):=by
 obtain ⟨n,rfl⟩:∃ n:Nat,m=n:=⟨m.toNat,by omega⟩
 have hn:n<31:=by omega
 have:((List.range 31).all fun n=>IntKind.i64.wrap (1*2 ^ Min.min (Int.toNat (n:Int)) IntKind.i64.bits)==((2 ^ (n:Int).toNat:Nat):Int))=true:=by kernel_rfl
 exact beq_iff_eq.1 (List.all_eq_true.1 this n (List.mem_range.2 hn))
theorem ZPF (m:Int) (h:0≤m∧m<31):IntKind.i64.wrap (1*2 ^ Min.min (IntKind.u64.wrap m).toNat IntKind.i64.bits)=((2 ^ m.toNat:Nat):Int):=by
 obtain ⟨n,rfl⟩:∃ n:Nat,m=n:=⟨m.toNat,by omega⟩
 have hn:n<31:=by omega
 have:((List.range 31).all fun n=>IntKind.i64.wrap (1*2 ^ Min.min (IntKind.u64.wrap (n:Int)).toNat IntKind.i64.bits)==((2 ^ (n:Int).toNat:Nat):Int))=true:=by kernel_rfl
 exact beq_iff_eq.1 (List.all_eq_true.1 this n (List.mem_range.2 hn))
theorem Zkk (n:Nat) (h:n<18446744073709551616):(BitVec.ofInt IntKind.i64.bits (n:Int)).toNat=n:=by
 show (BitVec.ofInt 64 (n:Int)).toNat=n
 rw [BitVec.toNat_ofInt];omega
theorem ZLU (n:Nat) (h:n<9223372036854775808):IntKind.i64.wrap (n:Int)=(n:Int):=Znt (by omega) (by omega)
theorem ZCg {a b:Nat} (ha:a<9223372036854775808) (hb:b<9223372036854775808):IntKind.i64.wrap ((BitVec.ofInt IntKind.i64.bits (a:Int) &&& BitVec.ofInt IntKind.i64.bits (b:Int)).toNat:Int)=((a &&& b:Nat):Int):=by
 rw [BitVec.toNat_and,Zkk a (by omega),Zkk b (by omega)]
 exact ZLU _ (Nat.lt_of_le_of_lt Nat.and_le_left ha)
theorem ZTg {a b:Nat} (ha:a<4611686018427387904) (hb:b<4611686018427387904):IntKind.i64.wrap ((BitVec.ofInt IntKind.i64.bits (a:Int) ||| BitVec.ofInt IntKind.i64.bits (b:Int)).toNat:Int)=((a ||| b:Nat):Int):=by
 rw [BitVec.toNat_or,Zkk a (by omega),Zkk b (by omega)]
 refine ZLU _ (Nat.lt_of_lt_of_le (Nat.or_lt_two_pow (n:=62) ha hb) (by decide))
def tb (s m:Int):Bool:=decide (0≤m)&&decide (m<31)&&s.toNat.testBit m.toNat
theorem Z2C (n k:Nat):(n &&& 2 ^ k !=0)=n.testBit k:=by
 cases h:n.testBit k
 ·have:n &&& 2 ^ k=0:=Nat.eq_of_testBit_eq fun i=>by
   rw [Nat.testBit_and,Nat.testBit_two_pow,Nat.zero_testBit]
   by_cases e:k=i
   ·subst e;rw [h];rfl
   ·simp [e]
  rw [this];rfl
 ·rw [bne_iff_ne]
  intro e
  have:(n &&& 2 ^ k).testBit k=true:=by rw [Nat.testBit_and,h,Nat.testBit_two_pow_self];rfl
  rw [e,Nat.zero_testBit] at this
  cases this
theorem ZK8 (m:Int):ZzF [m]=some (bitV m):=by
 unfold ZzF
 have e:Zbh (0,[m],(([m]:List Int).length:Int),0)=_:=ZDD [m] 0 (by simp)
 rw [e]
 unfold ZkL bitV
 simp only [Zp,Zet,Zkz]
 by_cases h1:m≥0
 ·by_cases h2:m<31
  ·rw [dT0 h1,dT0 h2,dF0 (show ¬ m<0 by omega),Z3g m ⟨h1,h2⟩,if_pos ⟨h1,h2⟩]
   simp only [cond_true,cond_false]
   have:=ZTg (a:=0) (b:=2 ^ m.toNat) (by decide) (Nat.lt_of_lt_of_le (Nat.pow_lt_pow_right (by decide) (show m.toNat<31 by omega)) (by decide))
   rw [show ((0:Nat):Int)=0 from rfl] at this
   rw [this,Nat.zero_or]
   rfl
  ·rw [dT0 h1,dF0 h2,if_neg (by omega)];rfl
 ·rw [dF0 h1,if_neg (by omega)];rfl
theorem ZCl (m:Int):∃ k:Nat,bitV m=k∧k<2147483648∧∀ n:Nat,(n &&& k !=0)=(decide (0≤m)&&decide (m<31)&&n.testBit m.toNat):=by
 unfold bitV
 by_cases h:0≤m∧m<31
 ·rw [if_pos h]
  refine ⟨2 ^ m.toNat,rfl,Nat.lt_of_lt_of_le (Nat.pow_lt_pow_right (by decide) (show m.toNat<31 by omega)) (by decide),fun n=>?_⟩
  rw [dT0 h.1,dT0 h.2,Z2C];rfl
 ·rw [if_neg h]
  refine ⟨0,rfl,by decide,fun n=>?_⟩
  rw [Nat.and_zero]
  by_cases h1:0≤m
  ·rw [dT0 h1,dF0 (show ¬ m<31 by omega)];rfl
  ·rw [dF0 h1];rfl
theorem Zcq (s m:Int) (hs:0≤s∧s<9223372036854775808):ZCW s m=some (tb s m):=by
 obtain ⟨n,rfl⟩:∃ n:Nat,s=n:=⟨s.toNat,by omega⟩
 obtain ⟨k,h1,h2,h3⟩:=ZCl m
 unfold ZCW Ze7 tb
 simp only [ZK8,Zb,h1]
 rw [ZCg (by omega) (by omega),tN0,← h3 n]
 congr 1
 rw [Bool.eq_iff_iff]
 simp only [bne_iff_ne]
 omega
theorem ZqN (s m:Int) (hs:0≤s∧s<2147483648):ZC3 s m=some (tb s m):=by
 obtain ⟨n,rfl⟩:∃ n:Nat,s=n:=⟨s.toNat,by omega⟩
 unfold ZC3 tb
 by_cases h1:m≥0
 case neg=>rw [dF0 h1];rfl
 by_cases h2:m≤30
 case neg=>rw [dT0 h1,dF0 h2,dF0 (show ¬ m<31 by omega)];rfl
 obtain ⟨k,rfl⟩:∃ k:Nat,m=k:=⟨m.toNat,by omega⟩
 have hk:k<31:=by omega
 have e1:((List.range 31).all fun k=>decide (IntKind.u64.wrap (k:Int)=(k:Int))&&decide (Min.min k IntKind.i64.bits=k))=true:=by kernel_rfl
 have e2:=List.all_eq_true.1 e1 k (List.mem_range.2 hk)
 simp only [Bool.and_eq_true,decide_eq_true_eq] at e2
 rw [dT0 h1,dT0 h2,e2.1,dF0 (show ¬ (k:Int)<0 by omega),dT0 (show (k:Int)<31 by omega)]
 simp only [cond_true,cond_false,tN0,e2.2,Bool.true_and]
 have e3:((n:Int).fdiv (2 ^ k))=((n / 2 ^ k:Nat):Int):=by
  rw [show ((2:Int) ^ k)=((2 ^ k:Nat):Int) by push_cast;rfl]
  rw [Int.fdiv_eq_ediv_of_nonneg _ (Int.natCast_nonneg _)]
  exact (Int.natCast_ediv n (2 ^ k)).symm
 have hlt:n / 2 ^ k<2147483648:=Nat.lt_of_le_of_lt (Nat.div_le_self _ _) (by omega)
 have e4:=ZCg (a:=n / 2 ^ k) (b:=1) (by omega) (by decide)
 rw [e3,show ((1:Nat):Int)=1 from rfl] at *
 rw [e4]
 congr 1
 rw [Bool.eq_iff_iff,Nat.and_one_is_mod,Nat.testBit_eq_decide_div_mod_eq]
 simp only [beq_iff_eq,decide_eq_true_eq]
 omega
theorem Zte (s m:Int) (hs:0≤s∧s<2147483648):ZzE s [m]=some (((s.toNat ||| (bitV m).toNat:Nat):Int)):=by
 obtain ⟨n,rfl⟩:∃ n:Nat,s=n:=⟨s.toNat,by omega⟩
 obtain ⟨k,h1,h2,h3⟩:=ZCl m
 unfold ZzE Ze7
 simp only [ZK8,Zb,h1,tN0]
 rw [ZTg (by omega) (by omega)]
theorem ZKY {a b:Nat} (ha:a<9223372036854775808) (hb:b<9223372036854775808):∃ r:Nat,IntKind.i64.wrap ((BitVec.ofInt IntKind.i64.bits (a:Int) &&& ~~~BitVec.ofInt IntKind.i64.bits (b:Int)).toNat:Int)=(r:Int)∧r≤a∧∀ i,r.testBit i=(a.testBit i && !b.testBit i):=by
 refine ⟨(BitVec.ofInt IntKind.i64.bits (a:Int) &&& ~~~BitVec.ofInt IntKind.i64.bits (b:Int)).toNat,ZLU _ ?_,?_,fun i=>?_⟩
 ·rw [BitVec.toNat_and,Zkk a (by omega)]
  exact Nat.lt_of_le_of_lt Nat.and_le_left ha
 ·rw [BitVec.toNat_and,Zkk a (by omega)]
  exact Nat.and_le_left
 ·rw [BitVec.toNat_and,Zkk a (by omega),Nat.testBit_and,BitVec.toNat_not,Zkk b (by omega)]
  by_cases hi:i<64
  ·rw [show 2 ^ IntKind.i64.bits - 1 - b=2 ^ 64 - (b+1) from by show 2 ^ 64 - 1 - b=_;omega,Nat.testBit_two_pow_sub_succ (by omega)]
   simp [hi]
  ·have:a.testBit i=false:=Nat.testBit_lt_two_pow (Nat.lt_of_lt_of_le ha (Nat.le_trans (by decide:9223372036854775808≤2 ^ 64) (Nat.pow_le_pow_right (by decide) (by omega))))
   rw [this];rfl
def woI (s m:Int):Int:=IntKind.i64.wrap ((BitVec.ofInt IntKind.i64.bits s &&& ~~~BitVec.ofInt IntKind.i64.bits (bitV m)).toNat:Int)
def wiI (s m:Int):Int:=((s.toNat ||| (bitV m).toNat:Nat):Int)
theorem ZA1 (s m:Int):Zsw s [m]=some (woI s m):=by
 unfold Zsw Ze7 woI
 simp only [ZK8,Zb]
theorem ZKy (s m:Int) (hs:0≤s∧s<2147483648) (hm:0≤m∧m<31):ZzQ s [m]=some (wiI s m):=by
 obtain ⟨n,rfl⟩:∃ n:Nat,s=n:=⟨s.toNat,by omega⟩
 obtain ⟨k,h1,h2,h3⟩:=ZCl m
 unfold ZzQ wiI
 have e:Zbk ((n:Int),[m],0)=_:=ZDJ [m] (n:Int) (by simp)
 rw [e]
 unfold ZkS
 have u0:¬ IntKind.u64.wrap m<0:=by
  have:IntKind.u64.wrap m=m % 18446744073709551616:=by simp [IntKind.wrap,IntKind.signed,IntKind.bits]
  rw [this];omega
 simp only [Zp,Zey,ZkE]
 simp only [List.getElem?_cons_zero,Zb,dT0 hm.1,dT0 (show m≥0 from hm.1),dT0 (show m≤30 by omega),dF0 u0,cond_true,cond_false,ZPF m hm]
 have hb:bitV m=((2 ^ m.toNat:Nat):Int):=by unfold bitV;rw [if_pos hm]
 rw [← hb,h1,ZTg (by omega) (by omega)]
 simp only [Zb,tN0]
theorem ZOn (s m:Int) (hm:0≤m∧m<31):ZsA s [m]=some (woI s m):=by
 unfold ZsA woI
 have e:HR (s,[m],0)=_:=Zyq [m] s (by simp)
 rw [e]
 unfold ZgI
 have u0:¬ IntKind.u64.wrap m<0:=by
  have:IntKind.u64.wrap m=m % 18446744073709551616:=by simp [IntKind.wrap,IntKind.signed,IntKind.bits]
  rw [this];omega
 simp only [Zp,Zbe,ZgD]
 simp only [List.getElem?_cons_zero,Zb,dT0 hm.1,dT0 (show m≥0 from hm.1),dT0 (show m≤30 by omega),dF0 u0,cond_true,cond_false,ZPF m hm]
 have hb:bitV m=((2 ^ m.toNat:Nat):Int):=by unfold bitV;rw [if_pos hm]
 rw [← hb]
def apI (a b:Int):Bool:=a.toNat &&& b.toNat==0
theorem ZOj (s:Int) (hs:0≤s∧s<9223372036854775808):∀ (k m:Nat) (acc:List Int),m+k=31→acc.length≤m→
  ∃ r,Zh Y1 (k+1) (s,(m:Int),acc)=some r∧(r.length=0↔acc.length=0∧∀ i:Nat,m≤i→i<31→tb s (i:Int)=false)
 | 0,m,acc,h,ha=>by
  refine ⟨acc,?_,⟨fun k=>⟨k,fun i h1 h2=>by omega⟩,fun k=>k.1⟩⟩
  rw [Zh]
  simp only [Y1,Zk6]
  rw [dF0 (show ¬ (m:Int)<31 by omega)]
  rfl
 | k+1,m,acc,h,ha=>by
  rw [Zh]
  simp only [Y1,Zk6]
  rw [dT0 (show (m:Int)<31 by omega),Zq (show m<31 by omega) (by decide)]
  simp only [ZZ,Zcq s m hs,Zb,cond_true]
  cases hb:tb s (m:Int)
  ·obtain ⟨r,e,q⟩:=ZOj s hs k (m+1) acc (by omega) (by omega)
   refine ⟨r,e,q.trans ⟨fun z=>⟨z.1,fun i h1 h2=>?_⟩,fun z=>⟨z.1,fun i h1 h2=>z.2 i (by omega) h2⟩⟩⟩
   by_cases hi:i=m
   ·subst hi;exact hb
   ·exact z.2 i (by omega) h2
  ·obtain ⟨r,e,q⟩:=ZOj s hs k (m+1) (acc++[(m:Int)]) (by omega) (by simp;omega)
   refine ⟨r,?_,q.trans ⟨fun z=>by simp at z,fun z=>?_⟩⟩
   ·simp only [cond_true]
    rw [dT0 (show (acc.length+[(m:Int)].length+1)*8≤lim by simp only [List.length_singleton];unfold lim;omega)]
    exact e
   ·have:=z.2 m (Nat.le_refl _) (by omega)
    rw [hb] at this;cases this
theorem ZUd {n:Nat} (h:n<2147483648) (hb:∀ i,i<31→n.testBit i=false):n=0:=Nat.eq_of_testBit_eq fun i=>by
 rw [Nat.zero_testBit]
 by_cases hi:i<31
 ·exact hb i hi
 ·exact Nat.testBit_lt_two_pow (Nat.lt_of_lt_of_le h (Nat.le_trans (by decide:2147483648≤2 ^ 31) (Nat.pow_le_pow_right (by decide) (by omega))))
theorem ZH6 (a b:Int) (ha:0≤a∧a<2147483648) (hb:0≤b∧b<2147483648):ZwW a b=some (apI a b):=by
 obtain ⟨x,rfl⟩:∃ n:Nat,a=n:=⟨a.toNat,by omega⟩
 obtain ⟨y,rfl⟩:∃ n:Nat,b=n:=⟨b.toNat,by omega⟩
 unfold ZwW apI ZsY ZKm ZlH
 rw [ZCg (by omega) (by omega)]
 have hlt:x &&& y<2147483648:=Nat.lt_of_le_of_lt Nat.and_le_left (by omega)
 obtain ⟨r,e,q⟩:=ZOj ((x &&& y:Nat):Int) (by omega) 31 0 [] (by decide) (by decide)
 have e2:=ZqD (31+1) Zl _ _ (by decide) e
 have e3:Zh Y1 Zl ((((x &&& y:Nat):Int),0,[]):Int×Int×List Int)=some r:=e2
 simp only [e3,Zb,tN0]
 congr 1
 rw [Bool.eq_iff_iff]
 simp only [beq_iff_eq]
 constructor
 ·intro h
  have:=(q.1 (by omega)).2
  refine ZUd hlt fun i hi=>?_
  have k:=this i (Nat.zero_le _) hi
  unfold tb at k
  rw [dT0 (show (0:Int)≤(i:Int) by omega),dT0 (show (i:Int)<31 by omega)] at k
  simpa using k
 ·intro h
  have:=q.2 ⟨rfl,fun i _ _=>by unfold tb;rw [h];simp⟩
  omega
theorem ZTc (a b:Int) (ha:0≤a∧a<2147483648) (hb:0≤b∧b<2147483648):Zqz a b=some (apI a b):=by
 obtain ⟨x,rfl⟩:∃ n:Nat,a=n:=⟨a.toNat,by omega⟩
 obtain ⟨y,rfl⟩:∃ n:Nat,b=n:=⟨b.toNat,by omega⟩
 have hlt:x &&& y<2147483648:=Nat.lt_of_le_of_lt Nat.and_le_left (by omega)
 unfold Zqz apI
 rw [ZCg (by omega) (by omega)]
 have:=ZCg (a:=x &&& y) (b:=2147483647) (by omega) (by decide)
 rw [show ((2147483647:Nat):Int)=2147483647 from rfl] at this
 rw [this]
 have e:(x &&& y) &&& 2147483647=x &&& y:=by
  rw [show 2147483647=2 ^ 31 - 1 from rfl,Nat.and_two_pow_sub_one_of_lt_two_pow (by omega)]
 rw [e]
 congr 1
 rw [Bool.eq_iff_iff]
 simp only [beq_iff_eq,tN0]
 omega
def seesB (t:Int) (ar:Bool) (g h:Int) (e:En):Bool:=e.1 !=t&&(e.2.1==ar&&(e.2.2.1==g&&apI e.2.2.2.1 h))
def seenS (p:En→Bool) (v:I) (l:List En):I:=l.foldl (fun v e=>if p e then Zg v e.2.2.2.2 else v) v
def seenV (l:List En) (t:Int) (ar:Bool) (g h:Int):I:=seenS (seesB t ar g h) nn l
def gainV (l:List En) (t:Int) (ar:Bool) (g h m:Int):I:=seenS (fun e=>seesB t ar g h e&&tb e.2.2.2.1 m) nn l
theorem ZXF (t:Int) (ar:Bool) (g h:Int) (hh:0≤h∧h<2147483648) (b0 b01 b1 b11:Int) (L:List En):∀ (l:List En) (i:Nat) (v:I),(∀ e∈l,entOK e)→
  Zp (fun i s d=>HJ t ar g h b0 b01 b1 b11 L i s.1 s.2 d) (fun s=>ZlQ t ar g h b0 b01 b1 b11 L s.1 s.2) i l v=some (b0,b01,b1,b11,(seenS (seesB t ar g h) v l).1,(seenS (seesB t ar g h) v l).2)
 | [],i,v,_=>rfl
 | d::r,i,v,he=>by
  have ed:=he d (by simp)
  have h1:HJ t ar g h b0 b01 b1 b11 L i v.1 v.2 d=some (.inl (if seesB t ar g h d then Zg v d.2.2.2.2 else v)):=by
   unfold HJ seesB
   simp only [Zcz,ZH6 _ _ ed.h hh,ZM,WF,Zb]
   cases d.1 !=t<;>cases d.2.1==ar<;>cases d.2.2.1==g<;>cases apI d.2.2.2.1 h<;>rfl
  rw [Zp]
  simp only [h1]
  exact ZXF t ar g h hh b0 b01 b1 b11 L r (i+1) _ fun e k=>he e (List.mem_cons_of_mem _ k)
theorem ZYt (l:List En) (t:Int) (ar:Bool) (g h:Int) (hh:0≤h∧h<2147483648) (he:∀ e∈l,entOK e) (hl:l.length<9223372036854775807):ZC7 l t ar g h=some (seenV l t ar g h):=by
 unfold ZC7
 have e:ZcH (t,ar,g,h,l,(l.length:Int),0,0,0,0,0,1,0)=_:=ZGh t ar g h 0 0 0 0 l nn hl
 rw [e]
 unfold Zl7
 rw [ZXF t ar g h hh 0 0 0 0 l l 0 nn he]
 rfl
theorem ZTt (t:Int) (ar:Bool) (g h:Int) (hh:0≤h∧h<2147483648) (b0 b01:Int) (L:List En):∀ (l:List En) (i:Nat) (v:I),(∀ e∈l,entOK e)→
  Zp (fun i s d=>K3 t ar g h b0 b01 L i s.1 s.2 d) (fun s=>Zjr t ar g h b0 b01 L s.1 s.2) i l v=some (b0,b01,(seenS (seesB t ar g h) v l).1,(seenS (seesB t ar g h) v l).2)
 | [],i,v,_=>rfl
 | d::r,i,v,he=>by
  have ed:=he d (by simp)
  have ha:=ZTc _ _ ed.h hh
  unfold Zqz at ha
  have ha:=Option.some.inj ha
  have h1:K3 t ar g h b0 b01 L i v.1 v.2 d=some (.inl (if seesB t ar g h d then Zg v d.2.2.2.2 else v)):=by
   unfold K3 seesB
   rw [ha,Zca ed.v]
   simp only [Zz,JP,Zb]
   cases d.1 !=t<;>cases d.2.1==ar<;>cases d.2.2.1==g<;>cases apI d.2.2.2.1 h<;>rfl
  rw [Zp]
  simp only [h1]
  exact ZTt t ar g h hh b0 b01 L r (i+1) _ fun e k=>he e (List.mem_cons_of_mem _ k)
theorem ZH9 (l:List En) (t:Int) (ar:Bool) (g h:Int) (hh:0≤h∧h<2147483648) (he:∀ e∈l,entOK e) (hl:l.length<9223372036854775807):ZwY l t ar g h=some (seenV l t ar g h):=by
 unfold ZwY
 have e:WL (l,t,ar,g,h,0,0,0,1,0)=_:=ZBj t ar g h 0 0 l nn hl
 rw [e]
 unfold ZjG
 rw [ZTt t ar g h hh 0 0 l l 0 nn he]
 rfl
theorem ZW4 (t:Int) (ar:Bool) (g h m:Int) (hh:0≤h∧h<2147483648) (b1 b11 b2 b21:Int) (L:List En):∀ (l:List En) (i:Nat) (v:I),(∀ e∈l,entOK e)→
  Zp (fun i s d=>K5 t ar g h b1 b11 m b2 b21 L i s.1 s.2 d) (fun s=>Zju t ar g h b1 b11 m b2 b21 L s.1 s.2) i l v =
   some (b1,b11,m,b2,b21,(seenS (fun e=>seesB t ar g h e&&tb e.2.2.2.1 m) v l).1,(seenS (fun e=>seesB t ar g h e&&tb e.2.2.2.1 m) v l).2)
 | [],i,v,_=>rfl
 | d::r,i,v,he=>by
  have ed:=he d (by simp)
  have h1:K5 t ar g h b1 b11 m b2 b21 L i v.1 v.2 d=some (.inl (if seesB t ar g h d&&tb d.2.2.2.1 m then Zg v d.2.2.2.2 else v)):=by
   unfold K5 seesB
   simp only [Zcz,ZH6 _ _ ed.h hh,ZZ,Zcq d.2.2.2.1 m ⟨ed.h.1,by have:=ed.h.2;omega⟩,ZM,WF,Zb]
   cases d.1 !=t<;>cases d.2.1==ar<;>cases d.2.2.1==g<;>cases apI d.2.2.2.1 h<;>cases tb d.2.2.2.1 m<;>rfl
  rw [Zp]
  simp only [h1]
  exact ZW4 t ar g h m hh b1 b11 b2 b21 L r (i+1) _ fun e k=>he e (List.mem_cons_of_mem _ k)
theorem ZTd (l:List En) (t:Int) (ar:Bool) (g h m:Int) (hh:0≤h∧h<2147483648) (he:∀ e∈l,entOK e) (hl:l.length<9223372036854775807):Zw4 l t ar g h m=some (gainV l t ar g h m):=by
 unfold Zw4
 have e:WN (t,ar,g,h,l,(l.length:Int),0,0,0,m,0,0,1,0)=_:=ZBl t ar g h 0 0 m 0 0 l nn hl
 rw [e]
 unfold ZjI
 rw [ZW4 t ar g h m hh 0 0 0 0 l l 0 nn he]
 rfl
theorem ZWw (t:Int) (ar:Bool) (g h m b0 b01:Int) (L:List En):∀ (l:List En) (i:Nat) (o:List En),(∀ e∈l,entOK e)→o.length+l.length<1000000000000→
  Zp (fun i s d=>JW t ar g h m b0 b01 L i s d) (fun s=>ZgC t ar g h m b0 b01 L s) i l o=some (t,ar,g,h,b0,b01,o++l.filter fun e=>tb e.2.2.2.1 m)
 | [],i,o,_,_=>by simp only [Zp,List.filter_nil,List.append_nil];rfl
 | d::r,i,o,he,hn=>by
  have ed:=he d (by simp)
  simp only [List.length_cons] at hn
  have h1:JW t ar g h m b0 b01 L i o d=some (.inl (if tb d.2.2.2.1 m then o++[d] else o)):=by
   unfold JW
   simp only [YE,ZqN d.2.2.2.1 m ed.h,Zb]
   rw [dT0 (show (o.length+[d].length+1)*48≤lim by simp only [List.length_singleton];unfold lim;omega)]
   cases tb d.2.2.2.1 m<;>rfl
  rw [Zp]
  simp only [h1]
  rw [ZWw t ar g h m b0 b01 L r (i+1) _ (fun e k=>he e (List.mem_cons_of_mem _ k)) (by split<;>(try simp only [List.length_append,List.length_singleton])<;>omega)]
  cases hb:tb d.2.2.2.1 m
  ·simp [hb]
  ·simp [hb]
theorem ZxM (p q:En→Bool):∀ (l:List En) (v:I),seenS p v (l.filter q)=seenS (fun e=>p e&&q e) v l
 | [],_=>rfl
 | d::r,v=>by
  unfold seenS
  cases hq:q d
  ·rw [List.filter_cons_of_neg (by simp [hq]),List.foldl_cons]
   simp only [hq,Bool.and_false,Bool.false_eq_true,if_false]
   exact ZxM p q r v
  ·rw [List.filter_cons_of_pos hq,List.foldl_cons,List.foldl_cons]
   simp only [hq,Bool.and_true]
   exact ZxM p q r _
theorem ZnG (l:List En) (t:Int) (ar:Bool) (g h m:Int) (hh:0≤h∧h<2147483648) (he:∀ e∈l,entOK e) (hl:l.length<1000000000000):Zsz l t ar g h m=some (gainV l t ar g h m):=by
 unfold Zsz
 have e:HP (l,t,ar,g,h,m,0,0,0,[])=_:=Zyp t ar g h m 0 0 l [] (by omega)
 rw [e]
 unfold ZgH
 rw [ZWw t ar g h m 0 0 l l 0 [] he (by simpa using hl)]
 simp only [Zb,List.nil_append,Zji]
 rw [ZH9 _ t ar g h hh (fun e k=>he e (List.mem_filter.1 k).1) (Nat.lt_of_le_of_lt (List.length_filter_le ..) (by omega))]
 simp only [Zb]
 unfold seenV gainV
 rw [ZxM]
abbrev Hv:=((List I)×(List I)×Int)
abbrev Js:=Unit
abbrev Jt:=Bool
def Zaa (s0 s1:List I) (s5:Int):Option (((List I)×(List I)×Int)⊕(Unit⊕Bool)):=bif decide (s5<(s0.length:Int)) then bif decide (0≤s5) then Za s0[s5.toNat]? none fun d5=>bif decide (0≤s5) then Za s1[s5.toNat]? none fun d6=>bif !(d5.1==d6.1&&d5.2==d6.2) then some (.inr (.inr false)) else some (.inl (s0,s1,IntKind.i64.wrap (s5+1))) else none else none else some (.inr (.inl PUnit.unit))
def Zrb:Hv→Option (Hv⊕(Js⊕Jt)):=fun (a,b,c)=>Zaa a b c
def ZfN (x:Hv):Option (Js⊕Jt):=Zh Zrb Zl x
def ZmZ (a0 a1:List I):Option Bool:=bif (a0.length:Int) !=(a1.length:Int) then some false else Za (ZfN (a0,a1,0)) none fun d4=>Sum.elim (fun e5=>some true) (fun e5=>some e5) d4
def Zfo (x:((List I)×((List I)×Unit))):Option Bool:=ZmZ x.1 x.2.1
def WU (s1 s0:List I) (i:Nat)  (d:I):Option (Unit⊕(Js⊕Jt)):=
 Za s1[i]? (none) fun d6=>
  bif !(d.1==d6.1&&d.2==d6.2) then
  some (.inr (.inr false))
 else some (.inl ())
def Zqo (s1 s0:List I):Option (Js⊕Jt):=
 some (.inl PUnit.unit)
abbrev ZDS (s1 s0:List I) (i:Nat) (s:Unit):Hv:=(s0,s1,(i:Int))
def ZkN (s1 s0:List I) (s:Unit):Option (Js⊕Jt):=Zp (fun i s d=>WU s1 s0 i  d) (fun s=>Zqo s1 s0 ) 0 s0 s
theorem ZqV (s1 s0:List I) (s:Unit) (hl:s0.length<9223372036854775807):ZfN (s0,s1,0)=ZkN s1 s0 s:=by
 unfold ZfN ZkN
 refine Zs s0 (ZDS s1 s0) _ _ ?_ ?_ s (by unfold Zl;omega)
 ·intro i s d hi hd
  have e1:decide ((i:Int)<(s0.length:Int))=true:=dT0 (by omega)
  have e2:decide (0≤(i:Int))=true:=dT0 (by omega)
  have e3:Int.toNat (i:Int)=i:=tN0 i
  have e4:=Zq hi (Nat.le_of_lt hl)
  show Zaa (s0) (s1) ((i:Int))=upd _ (WU s1 s0 i  d)
  unfold Zaa WU
  simp only [e1,e2,e3,e4,hd,cond_true,cond_false,Zb,ZC,ZF,ZD,ZI,ZJ,ZE]
 ·intro s
  have e1:decide ((s0.length:Int)<(s0.length:Int))=false:=dF0 (by omega)
  show Zaa (s0) (s1) ((s0.length:Int))=_
  unfold Zaa Zqo
  rw [e1]
  rfl
def ZmX (a0 a1:E):Option Bool:=bif !a0.1 then some (a0.1==a1.1) else bif !a1.1 then some (a0.1==a1.1) else Za (Zfo (a0.2.1,a1.2.1,())) none fun d3=>bif d3 then Za (Zfo (a0.2.2.1,a1.2.2.1,())) none fun d4=>bif d4 then Za (Zfo (a0.2.2.2.1,a1.2.2.2.1,())) none fun d5=>bif d5 then bif a0.2.2.2.2.1==a1.2.2.2.2.1 then some (a0.2.2.2.2.2==a1.2.2.2.2.2) else some false else some false else some false else some false
def WH (x:E×(E×Unit)):Option Bool:=ZmX x.1 x.2.1
def Zm1 (a0:E) (a1:Int) (a2:I):Option E:=bif decide (((List.length (α:=I) [])+List.length a0.2.1+1)*16≤lim) then bif decide (0≤a1) then Za ([]++a0.2.1)[a1.toNat]? none fun d4=>Za ([]++a0.2.1)[a1.toNat]? none fun d5=>some (a0.1,([]++a0.2.1).set a1.toNat a2,a0.2.2.1,a0.2.2.2.1,a0.2.2.2.2.1,a0.2.2.2.2.2) else none else none
def Zw (x:(E×(Int×(I×Unit)))):Option E:=Zm1 x.1 x.2.1 x.2.2.1
def ZQg:List Sh:=[.dat tU,.dat (.int .i64),.dat tE,.dat (.sl tEn),.dat .bool,.dat (.int .i64)]
def ZTS:List Con:=[⟨171,ZHk,ZTN⟩,⟨111,HU,W4⟩]
def ZzD (a0:U) (a1:Int) (a2:E) (a3:List En) (a4:Bool) (a5:Int):Option I:=bif a4 then bif decide (0≤a5) then Za a2.2.2.2.1[a5.toNat]? none fun d7=>Za (Zp7 (a3,a1,a4,a5,a2.2.2.2.2.1,())) none fun d8=>Za (ZM ([d7,d8],())) none fun d9=>some (d9.1,d9.2) else none else bif decide (0≤a5) then Za a2.2.2.1[a5.toNat]? none fun d7=>Za (Zp7 (a3,a1,a4,a5,a2.2.2.2.2.1,())) none fun d8=>Za (ZM ([d7,d8],())) none fun d9=>some (d9.1,d9.2) else none
def Qe (x:(U×(Int×(E×((List En)×(Bool×(Int×Unit))))))):Option I:=ZzD x.1 x.2.1 x.2.2.1 x.2.2.2.1 x.2.2.2.2.1 x.2.2.2.2.2.1
def ZEK:=conP false ZQg (.dat tI) Qe
theorem ZQS:Zf Tryz.prog 133 ZEK:=Ze (calU ZTS [] 40 1048576 8 133) false (by rfl) (by rfl) (fun x r e=>(Zk _ _ _ _ _ _ _).trans ((show _=Qe x by kernel_rfl).trans e)) (.inr fun _=>rfl)
def ZwZ (a0:Int) (a1:E) (a2:List En) (a3:Bool) (a4:Int):Option I:=Za (Zji (a2,a0,a3,a4,a1.2.2.2.2.1,())) none fun d6=>bif a3 then bif decide (0≤a4) then Za a1.2.2.2.1[a4.toNat]? none fun d7=>Za (Zz (d7,d6,())) none fun d8=>some (d8.1,d8.2) else none else bif decide (0≤a4) then Za a1.2.2.1[a4.toNat]? none fun d7=>Za (Zz (d7,d6,())) none fun d8=>some (d8.1,d8.2) else none
def Qm (x:(Int×(E×((List En)×(Bool×(Int×Unit)))))):Option I:=ZwZ x.1 x.2.1 x.2.2.1 x.2.2.2.1 x.2.2.2.2.1
def upto {α:Type} (f:Nat→α→α) (k:Nat) (l:List α):List α:=l.mapIdx fun j d=>if j<k then f j d else d
theorem Z0L {α:Type} (f:Nat→α→α) (l:List α):upto f 0 l=l:=by
 apply List.ext_getElem?
 intro j
 simp [upto]
theorem Z2g {α:Type} (f:Nat→α→α) (l:List α):upto f l.length l=l.mapIdx f:=by
 apply List.ext_getElem?
 intro j
 simp only [upto,List.getElem?_mapIdx]
 cases h:l[j]? with
 | none=>rfl
 | some d=>
  have:=(List.getElem?_eq_some_iff.1 h).1
  simp [this]
theorem Z2h {α:Type} (f:Nat→α→α) {l:List α} {i:Nat} {d:α} (h:l[i]? = some d):(upto f i l)[i]? = some d:=by
 simp only [upto,List.getElem?_mapIdx,h]
 simp
theorem Z2i {α:Type} (f:Nat→α→α) {l:List α} {i:Nat} {d:α} (h:l[i]? = some d):(upto f i l).set i (f i d)=upto f (i+1) l:=by
 apply List.ext_getElem?
 intro j
 have hi:=(List.getElem?_eq_some_iff.1 h).1
 by_cases e:i=j
 ·subst e
  rw [List.getElem?_set_self (by simp [upto];exact hi)]
  simp only [upto,List.getElem?_mapIdx,h]
  simp
 ·rw [List.getElem?_set_ne e]
  simp only [upto,List.getElem?_mapIdx]
  cases l[j]? with
  | none=>rfl
  | some x=>
   by_cases k:j<i
   ·simp [k,show j<i+1 by omega]
   ·simp [k,show ¬ j<i+1 by omega]
theorem ZUb {α:Type} (f:Nat→α→α) (k:Nat) (l:List α):(upto f k l).length=l.length:=by simp [upto]
theorem Zps {X Y α:Type} {step:X→Option (X⊕Y)} (rx:Nat→List α→X) (f:Nat→α→α) (fin:List α→Y) (l:List α)
  (hs:∀ i d r,l[i]? = some d→r.length=l.length→r[i]? = some d→step (rx i r)=some (.inl (rx (i+1) (r.set i (f i d)))))
  (he:∀ r,r.length=l.length→step (rx l.length r)=some (.inr (fin r))) (hl:l.length<9223372036854775807):Zh step Zl (rx 0 l)=some (fin (l.mapIdx f)):=by
 have go:∀ k i,i+k=l.length→Zh step (k+1) (rx i (upto f i l))=some (fin (l.mapIdx f)):=by
  intro k
  induction k with
  | zero=>
   intro i hi
   have:i=l.length:=by omega
   subst this
   rw [Zh,he _ (ZUb _ _ _),Z2g]
  | succ k ih=>
   intro i hi
   obtain ⟨d,hd⟩:∃ d,l[i]? = some d:=⟨l[i]'(by omega),List.getElem?_eq_getElem _⟩
   rw [Zh,hs i d _ hd (ZUb _ _ _) (Z2h f hd),Z2i f hd]
   exact ih (i+1) (by omega)
 have:=go l.length 0 (by omega)
 rw [Z0L] at this
 exact ZqD _ _ _ _ (by unfold Zl;omega) this
def ZBA (e:E):Prop:=e.2.1.length<9223372036854775807∧e.2.2.1.length<9223372036854775807∧e.2.2.2.1.length<9223372036854775807
def VN (o:O):Prop:=ZBA o.1∧ZBA o.2.1∧o.2.2.1.length<9223372036854775807∧o.2.2.2.1.length<9223372036854775807∧o.2.2.2.2.length<9223372036854775807
theorem ZOD {p:En→Bool}:∀ {l:List En} {v:I},isB v=true→(∀ e∈l,entOK e)→isB (seenS p v l)=true
 | [],v,hv,_=>hv
 | e::r,v,hv,h=>by
  unfold seenS
  rw [List.foldl_cons]
  refine ZOD (l:=r) ?_ fun x hx=>h x (List.mem_cons_of_mem _ hx)
  have he:=(h e (List.mem_cons_self ..)).v
  split
  ·rw [Zca he];exact ZkJ hv he
  ·exact hv
theorem ZYu:isB nn=true:=by decide
theorem ZTA {l:List En} {t:Int} {ar:Bool} {g h:Int} (he:∀ e∈l,entOK e):isB (seenV l t ar g h)=true:=ZOD ZYu he
theorem ZsB {l:List En} {t:Int} {ar:Bool} {g h m:Int} (he:∀ e∈l,entOK e):isB (gainV l t ar g h m)=true:=ZOD ZYu he
def readV (d:I) (l:List En) (t:Int) (ar:Bool) (g h:Int):I:=rJoin d (seenV l t ar g h)
theorem Ztd (u:U) (t:Int) (e:E) (l:List En) (ar:Bool) (g:Int) (d:I) (hg:0≤g) (hd:(if ar then e.2.2.2.1 else e.2.2.1)[g.toNat]? = some d)
  (hh:0≤e.2.2.2.2.1∧e.2.2.2.2.1<2147483648) (he:∀ e∈l,entOK e) (hl:l.length<9223372036854775807):ZzD u t e l ar g=some (readV d l t ar g e.2.2.2.2.1):=by
 unfold ZzD Zp7 ZM
 simp only [ZYt l t ar g _ hh he hl,Zb,WF,ZIV hg,Zca (ZTA he)]
 cases ar<;>(simp only [Bool.false_eq_true,if_true,if_false] at hd;rw [hd];rfl)
theorem ZIa (t:Int) (e:E) (l:List En) (ar:Bool) (g:Int) (d:I) (hg:0≤g) (hd:(if ar then e.2.2.2.1 else e.2.2.1)[g.toNat]? = some d)
  (hh:0≤e.2.2.2.2.1∧e.2.2.2.2.1<2147483648) (he:∀ e∈l,entOK e) (hl:l.length<9223372036854775807):ZwZ t e l ar g=some (readV d l t ar g e.2.2.2.2.1):=by
 unfold ZwZ Zji Zz
 simp only [ZH9 l t ar g _ hh he hl,Zb,JP,ZIV hg]
 cases ar<;>(simp only [Bool.false_eq_true,if_true,if_false] at hd;rw [hd];rfl)
theorem HV (e:E) (T:Int) (v:I) (h0:0≤T) (h1:T<(e.2.1.length:Int)) (h2:e.2.1.length≤1000):Zm1 e T v=some (e.1,e.2.1.set T.toNat v,e.2.2):=by
 unfold Zm1
 obtain ⟨d,hd⟩:∃ d,e.2.1[T.toNat]? = some d:=⟨e.2.1[T.toNat]'(by omega),List.getElem?_eq_getElem _⟩
 simp only [List.nil_append,List.length_nil,Nat.zero_add]
 rw [ZIV (by unfold lim;omega),ZIV h0,hd]
 rfl
def ZFw:Ctx:={ tab:=tab,spec:=fun _=>none,inl:=inl,lps:=fun _ _=>none,fuel:=40 }
def ZeB:List AV→Prog AV:=ZMb 16 tI
theorem Zk5:Zf Tryz.prog 173 ZeB:=
 ZKf (cx:=ZFw) (cal:=fun _ _=>.fail) (i:=⟨(.sl (.st (.pair (.int .i64) (.int .i64)))),24,46,[],false⟩) (ie:=⟨(.st (.pair (.int .i64) (.int .i64))),16,0,[(0,1),(1,1)],true⟩) (ZsT ZxW) Tryz.func173 (ZSK 173 Tryz.f173 rfl).2 (t:=42) (tb:=4) (s0 := "slices.go:355") (s1 := "slices.go:357") (s2 := "slices.go:358") (s3 := "slices.go:362") (by kernel_rfl) (by kernel_rfl) (by kernel_rfl) rfl rfl rfl rfl
abbrev ZpV:Type:=(Int×Int×Int×Int×Int×Int×Int×Int×Int×(List Int)×(List Int)×Int×(List C)×Int×Int×Bool×(List I)×(List I)×(List I)×Int×Int×(List En)×Bool×(List I)×(List I)×(List I)×Int×Int×Bool×(List I)×(List I)×(List I)×Int×Int×(List Int)×(List En)×(List Ac)×Bool×Int×Int×(List I))
def ZFn:List Sh:=[.view [.int .i64,.int .i64,.int .i64,.int .i64,.int .i64,.int .i64,.int .i64,.int .i64,.int .i64,.sln (.int .i64),.sln (.int .i64),.int .i64,.sln tC,.int .i64,.int .i64,.bool,.sln tI,.sln tI,.sln tI,.int .i64,.int .i64,.sln tEn,.bool,.sln tI,.sln tI,.sln tI,.int .i64,.int .i64,.bool,.sln tI,.sln tI,.sln tI,.int .i64,.int .i64,.sln (.int .i64),.sln tEn,.sln tAc] 0,.dat (.sl tI),.dat .bool]
def Zm3:Nat→List Nat:=fun c=>bif c.beq 0 then [0,1,2,11,12,13] else [1]
def Zui:List Con:=[⟨173,ZeB,Zk5⟩,⟨201,ZAy,ZOQ⟩,⟨111,HU,W4⟩]
def WE:StS:=⟨[(0,.view [.int .i64,.int .i64,.int .i64,.int .i64,.int .i64,.int .i64,.int .i64,.int .i64,.int .i64,.sl (.int .i64),.sl (.int .i64),.int .i64,.sl tC,.int .i64,.int .i64,.bool,.sl tI,.sl tI,.sl tI,.int .i64,.int .i64,.sl tEn,.bool,.sl tI,.sl tI,.sl tI,.int .i64,.int .i64,.bool,.sl tI,.sl tI,.sl tI,.int .i64,.int .i64,.sl (.int .i64),.sl tEn,.sl tAc] 0),(1,.row 0),(2,.bool),(11,.row 0),(12,.int .i64),(13,.int .i64)],[(0,.row tI)],1⟩
def JU:StS:=⟨[(1,.row 0)],[(0,.row tI)],1⟩
abbrev KQ:=ZpV
def ZuC:StD WE→KQ:=fun (((a,b,c,d,e,f,g,h,i,j,k,l,m,n,o,p,q,r,s,t,u,w,y,z,au,aw,ay,az,bu,bw,bz,cu,cw,cy,cz,du,dw,_),_,dy,_,dz,eu,_),(ew,_))=>(a,b,c,d,e,f,g,h,i,j,k,l,m,n,o,p,q,r,s,t,u,w,y,z,au,aw,ay,az,bu,bw,bz,cu,cw,cy,cz,du,dw,dy,dz,eu,ew)
def ZuR:KQ→StD WE:=fun (a,b,c,d,e,f,g,h,i,j,k,l,m,n,o,p,q,r,s,t,u,w,y,z,au,aw,ay,az,bu,bw,bz,cu,cw,cy,cz,du,dw,dy,dz,eu,ew)=>(((a,b,c,d,e,f,g,h,i,j,k,l,m,n,o,p,q,r,s,t,u,w,y,z,au,aw,ay,az,bu,bw,bz,cu,cw,cy,cz,du,dw,()),(),dy,(),dz,eu,()),(ew,()))
abbrev Hj:=(List I)
def ZN9 (d:StD JU):Hj:=(d.2.1)
def Zcd (x:Hj):StD JU:=(((),()),(x,()))
def Kq (s0 s0_1 s0_2 s0_3 s0_4 s0_5 s0_6 s0_7 s0_8:Int) (s0_9 s0_10:List Int) (s0_11:Int) (s0_12:List C) (s0_13 s0_14:Int) (s0_15:Bool) (s0_16 s0_17 s0_18:List I) (s0_19 s0_20:Int) (s0_21:List En) (s0_22:Bool) (s0_23 s0_24 s0_25:List I) (s0_26 s0_27:Int) (s0_28:Bool) (s0_29 s0_30 s0_31:List I) (s0_32 s0_33:Int) (s0_34:List Int) (s0_35:List En) (s0_36:List Ac) (s2:Bool) (s12 s13:Int) (b0:List I):Option (ZpV⊕(List I)):=bif decide (s13<s12) then bif decide (0≤s13) then Za b0[s13.toNat]? none fun d43=>Za b0[s13.toNat]? none fun d44=>Za (Zp5 (s0_21,s0_13,s2,s13,s0_19,s0_4,())) none fun d45=>Za (ZM ([d44,d45],())) none fun d46=>bif decide (0≤s13) then Za b0[s13.toNat]? none fun d47=>Za b0[s13.toNat]? none fun d48=>some (.inl (s0,s0_1,s0_2,s0_3,s0_4,s0_5,s0_6,s0_7,s0_8,s0_9,s0_10,s0_11,s0_12,s0_13,s0_14,s0_15,s0_16,s0_17,s0_18,s0_19,s0_20,s0_21,s0_22,s0_23,s0_24,s0_25,s0_26,s0_27,s0_28,s0_29,s0_30,s0_31,s0_32,s0_33,s0_34,s0_35,s0_36,s2,s12,IntKind.i64.wrap (s13+1),b0.set s13.toNat d46)) else none else none else some (.inr b0)
def Zlt:KQ→Option (KQ⊕Hj):=fun (a,b,c,d,e,f,g,h,i,j,k,l,m,n,o,p,q,r,s,t,u,w,y,z,au,aw,ay,az,bu,bw,bz,cu,cw,cy,cz,du,dw,dy,dz,eu,ew)=>Kq a b c d e f g h i j k l m n o p q r s t u w y z au aw ay az bu bw bz cu cw cy cz du dw dy dz eu ew
def WB (x:KQ):Option Hj:=Zh Zlt Zl x
def ZnV:Nat→Tm→Prog (Nat×Tm):=(varP 0 (fun T h=>(rdS WE T h).map ZuC) WB (altE 2 JU Zcd) (fun _ _=>.fail))
def Zxa:Lpc:=⟨176,0,47,(fun base T=>.norm base (Zm3 0) T (ZnV base)),by kernel_rfl,by kernel_rfl,(loopU Zui [] 40 1048576 8 (keep:=Zm3) (q:=ZnV) (by kernel_rfl) (Zv (s:=WE) (un:=ZuR) (by rfl) (fun _=>rfl) (Zn (s:=JU) (un:=Zcd) (flat:=ZN9) (by rfl) (fun _=>rfl)) (step:=Zlt) (fun _=>by kernel_rfl) (fun _ _ e=>⟨_,e⟩) (Zm 2 JU Zcd) (ZB.fail _ _)))⟩
def Zn5 (a0 a1 a2 a3 a4 a5 a6 a7 a8:Int) (a9 a10:List Int) (a11:Int) (a12:List C) (a13 a14:Int) (a15:Bool) (a16 a17 a18:List I) (a19 a20:Int) (a21:List En) (a22:Bool) (a23 a24 a25:List I) (a26 a27:Int) (a28:Bool) (a29 a30 a31:List I) (a32 a33:Int) (a34:List Int) (a35:List En) (a36:List Ac) (a37:List I) (a38:Bool):Option (List I):=bif decide (((List.length (α:=I) [])+a37.length+1)*16≤lim) then Za (WB (a0,a1,a2,a3,a4,a5,a6,a7,a8,a9,a10,a11,a12,a13,a14,a15,a16,a17,a18,a19,a20,a21,a22,a23,a24,a25,a26,a27,a28,a29,a30,a31,a32,a33,a34,a35,a36,a38,(↑([]++a37).length:Int),0,[]++a37)) none fun d41=>some d41 else none
def Z9 (x:((Int×(Int×(Int×(Int×(Int×(Int×(Int×(Int×(Int×((List Int)×((List Int)×(Int×((List C)×(Int×(Int×(Bool×((List I)×((List I)×((List I)×(Int×(Int×((List En)×(Bool×((List I)×((List I)×((List I)×(Int×(Int×(Bool×((List I)×((List I)×((List I)×(Int×(Int×((List Int)×((List En)×((List Ac)×Unit)))))))))))))))))))))))))))))))))))))×((List I)×(Bool×Unit)))):Option (List I):=Zn5 x.1.1 x.1.2.1 x.1.2.2.1 x.1.2.2.2.1 x.1.2.2.2.2.1 x.1.2.2.2.2.2.1 x.1.2.2.2.2.2.2.1 x.1.2.2.2.2.2.2.2.1 x.1.2.2.2.2.2.2.2.2.1 x.1.2.2.2.2.2.2.2.2.2.1 x.1.2.2.2.2.2.2.2.2.2.2.1 x.1.2.2.2.2.2.2.2.2.2.2.2.1 x.1.2.2.2.2.2.2.2.2.2.2.2.2.1 x.1.2.2.2.2.2.2.2.2.2.2.2.2.2.1 x.1.2.2.2.2.2.2.2.2.2.2.2.2.2.2.1 x.1.2.2.2.2.2.2.2.2.2.2.2.2.2.2.2.1 x.1.2.2.2.2.2.2.2.2.2.2.2.2.2.2.2.2.1 x.1.2.2.2.2.2.2.2.2.2.2.2.2.2.2.2.2.2.1 x.1.2.2.2.2.2.2.2.2.2.2.2.2.2.2.2.2.2.2.1 x.1.2.2.2.2.2.2.2.2.2.2.2.2.2.2.2.2.2.2.2.1 x.1.2.2.2.2.2.2.2.2.2.2.2.2.2.2.2.2.2.2.2.2.1 x.1.2.2.2.2.2.2.2.2.2.2.2.2.2.2.2.2.2.2.2.2.2.1 x.1.2.2.2.2.2.2.2.2.2.2.2.2.2.2.2.2.2.2.2.2.2.2.1 x.1.2.2.2.2.2.2.2.2.2.2.2.2.2.2.2.2.2.2.2.2.2.2.2.1 x.1.2.2.2.2.2.2.2.2.2.2.2.2.2.2.2.2.2.2.2.2.2.2.2.2.1 x.1.2.2.2.2.2.2.2.2.2.2.2.2.2.2.2.2.2.2.2.2.2.2.2.2.2.1 x.1.2.2.2.2.2.2.2.2.2.2.2.2.2.2.2.2.2.2.2.2.2.2.2.2.2.2.1 x.1.2.2.2.2.2.2.2.2.2.2.2.2.2.2.2.2.2.2.2.2.2.2.2.2.2.2.2.1 x.1.2.2.2.2.2.2.2.2.2.2.2.2.2.2.2.2.2.2.2.2.2.2.2.2.2.2.2.2.1 x.1.2.2.2.2.2.2.2.2.2.2.2.2.2.2.2.2.2.2.2.2.2.2.2.2.2.2.2.2.2.1 x.1.2.2.2.2.2.2.2.2.2.2.2.2.2.2.2.2.2.2.2.2.2.2.2.2.2.2.2.2.2.2.1 x.1.2.2.2.2.2.2.2.2.2.2.2.2.2.2.2.2.2.2.2.2.2.2.2.2.2.2.2.2.2.2.2.1 x.1.2.2.2.2.2.2.2.2.2.2.2.2.2.2.2.2.2.2.2.2.2.2.2.2.2.2.2.2.2.2.2.2.1 x.1.2.2.2.2.2.2.2.2.2.2.2.2.2.2.2.2.2.2.2.2.2.2.2.2.2.2.2.2.2.2.2.2.2.1 x.1.2.2.2.2.2.2.2.2.2.2.2.2.2.2.2.2.2.2.2.2.2.2.2.2.2.2.2.2.2.2.2.2.2.2.1 x.1.2.2.2.2.2.2.2.2.2.2.2.2.2.2.2.2.2.2.2.2.2.2.2.2.2.2.2.2.2.2.2.2.2.2.2.1 x.1.2.2.2.2.2.2.2.2.2.2.2.2.2.2.2.2.2.2.2.2.2.2.2.2.2.2.2.2.2.2.2.2.2.2.2.2.1 x.2.1 x.2.2.1
def ZrB:=conR false ZFn tI Z9
theorem ZGy:Zf Tryz.prog 176 ZrB:=ZhA (calU Zui [Zxa] 40 1048576 8 176) false (by rfl) (fun x r e=>(Zpp _ _ _ _ _ _ _).trans ((show _=Z9 x by kernel_rfl).trans e)) (.inr (by rfl))
abbrev Zjd:Type:=(Int×(List En)×Int×Int×Int×Int×Int×Int×Int×Int×Int×Int×Bool×(List I)×(List I)×(List I)×Int×Int×Bool×Int×Int×Bool×Int×Int×Bool×Int×Int×Bool×Int×Int×(List Int)×Bool×(List I)×Int×Int×(List I)×(List I))
abbrev ZvP:Type:=(Int×(List En)×Int×Int×Int×Int×Int×Int×Int×Int×Int×Bool×(List I)×(List I)×(List I)×Int×Int×Bool×Int×Int×Bool×Int×Int×Bool×Int×Int×Bool×Int×Int×(List Int)×Bool×(List I)×Int×Int×(List I)×(List I))
abbrev Zje:Type:=(Int×(List En)×Int×Int×Int×Int×Int×Int×Int×Int×Int×Int×Bool×(List I)×(List I)×(List I)×Int×Int×Bool×Int×Int×Bool×Int×Int×Bool×Int×Int×Bool×Int×Int×Bool×(List I)×Int×Int×(List I)×(List I))
abbrev ZvQ:Type:=(Int×(List En)×Int×Int×Int×Int×Int×Int×Int×Int×Int×Bool×(List I)×(List I)×(List I)×Int×Int×Bool×Int×Int×Bool×Int×Int×Bool×Int×Int×Bool×Int×Int×Bool×(List I)×Int×Int×(List I)×(List I))
abbrev ZvR:Type:=(Int×Int×Int×Int×Int×Int×Int×Int×Int×Bool×(List I)×(List I)×(List I)×Int×Int×Bool×Int×Int×Bool×Int×Int×Bool×Int×Int×Bool×Int×Int×(List Int)×Bool×(List I)×Int×Int×(List I)×(List I))
abbrev ZvS:Type:=(Int×Int×Int×Int×Int×Int×Int×Int×Int×Bool×(List I)×(List I)×(List I)×Int×Int×Bool×Int×Int×Bool×Int×Int×Bool×Int×Int×Bool×Int×Int×Bool×(List I)×Int×Int×(List I)×(List I))
abbrev Zbs:=Zjd
abbrev Zds:=ZvP
def Zad (s0:Int) (s3:List En) (s11 b0 b0_1 b0_2 b0_3 b0_4 b0_5 b0_6 b0_7 b0_8:Int) (b1:Bool) (b1_1 b1_2 b1_3:List I) (b1_4 b1_5:Int) (b2:Bool) (b2_1 b2_2:Int) (b2_3:Bool) (b2_4 b2_5:Int) (b3:Bool) (b3_1 b3_2:Int) (b3_3:Bool) (b3_4 b3_5:Int) (b4:List Int) (b5:Bool) (b5_1:List I) (b5_2 b5_3:Int) (b6 b7:List I):Option (Zjd⊕ZvP):=bif decide (s11<(b6.length:Int)) then bif decide (0≤s11) then Za b6[s11.toNat]? none fun d42=>Za b6[s11.toNat]? none fun d43=>Za (Kz (s3,s0,false,s11,b1_4,b0_4,())) none fun d44=>Za (Zz (d43,d44,())) none fun d45=>bif decide (0≤s11) then Za b6[s11.toNat]? none fun d46=>Za b6[s11.toNat]? none fun d47=>some (.inl (s0,s3,IntKind.i64.wrap (s11+1),b0,b0_1,b0_2,b0_3,b0_4,b0_5,b0_6,b0_7,b0_8,b1,b1_1,b1_2,b1_3,b1_4,b1_5,b2,b2_1,b2_2,b2_3,b2_4,b2_5,b3,b3_1,b3_2,b3_3,b3_4,b3_5,b4,b5,b5_1,b5_2,b5_3,b6.set s11.toNat d45,b7)) else none else none else some (.inr (s0,s3,b0,b0_1,b0_2,b0_3,b0_4,b0_5,b0_6,b0_7,b0_8,b1,b1_1,b1_2,b1_3,b1_4,b1_5,b2,b2_1,b2_2,b2_3,b2_4,b2_5,b3,b3_1,b3_2,b3_3,b3_4,b3_5,b4,b5,b5_1,b5_2,b5_3,b6,b7))
def Zre:Zbs→Option (Zbs⊕Zds):=fun (a,b,c,d,e,f,g,h,i,j,k,l,m,n,o,p,q,r,s,t,u,w,y,z,au,aw,ay,az,bu,bw,bz,cu,cw,cy,cz,du,dw)=>Zad a b c d e f g h i j k l m n o p q r s t u w y z au aw ay az bu bw bz cu cw cy cz du dw
def ZfQ (x:Zbs):Option Zds:=Zh Zre Zl x
abbrev Zbr:=Zje
abbrev Zdr:=ZvQ
def Zac (s0:Int) (s3:List En) (s11 b0 b0_1 b0_2 b0_3 b0_4 b0_5 b0_6 b0_7 b0_8:Int) (b1:Bool) (b1_1 b1_2 b1_3:List I) (b1_4 b1_5:Int) (b2:Bool) (b2_1 b2_2:Int) (b2_3:Bool) (b2_4 b2_5:Int) (b3:Bool) (b3_1 b3_2:Int) (b3_3:Bool) (b3_4 b3_5:Int) (b4:Bool) (b4_1:List I) (b4_2 b4_3:Int) (b5 b6:List I):Option (Zje⊕ZvQ):=bif decide (s11<(b5.length:Int)) then bif decide (0≤s11) then Za b5[s11.toNat]? none fun d41=>Za b5[s11.toNat]? none fun d42=>Za (Kz (s3,s0,false,s11,b1_4,b0_4,())) none fun d43=>Za (Zz (d42,d43,())) none fun d44=>bif decide (0≤s11) then Za b5[s11.toNat]? none fun d45=>Za b5[s11.toNat]? none fun d46=>some (.inl (s0,s3,IntKind.i64.wrap (s11+1),b0,b0_1,b0_2,b0_3,b0_4,b0_5,b0_6,b0_7,b0_8,b1,b1_1,b1_2,b1_3,b1_4,b1_5,b2,b2_1,b2_2,b2_3,b2_4,b2_5,b3,b3_1,b3_2,b3_3,b3_4,b3_5,b4,b4_1,b4_2,b4_3,b5.set s11.toNat d44,b6)) else none else none else some (.inr (s0,s3,b0,b0_1,b0_2,b0_3,b0_4,b0_5,b0_6,b0_7,b0_8,b1,b1_1,b1_2,b1_3,b1_4,b1_5,b2,b2_1,b2_2,b2_3,b2_4,b2_5,b3,b3_1,b3_2,b3_3,b3_4,b3_5,b4,b4_1,b4_2,b4_3,b5,b6))
def Zrd:Zbr→Option (Zbr⊕Zdr):=fun (a,b,c,d,e,f,g,h,i,j,k,l,m,n,o,p,q,r,s,t,u,w,y,z,au,aw,ay,az,bu,bw,bz,cu,cw,cy,cz,du)=>Zac a b c d e f g h i j k l m n o p q r s t u w y z au aw ay az bu bw bz cu cw cy cz du
def ZfP (x:Zbr):Option Zdr:=Zh Zrd Zl x
abbrev Zbu:=Zjd
abbrev Zdu:=ZvR
def Zaf (s0:Int) (s3:List En) (s12 b0 b0_1 b0_2 b0_3 b0_4 b0_5 b0_6 b0_7 b0_8:Int) (b1:Bool) (b1_1 b1_2 b1_3:List I) (b1_4 b1_5:Int) (b2:Bool) (b2_1 b2_2:Int) (b2_3:Bool) (b2_4 b2_5:Int) (b3:Bool) (b3_1 b3_2:Int) (b3_3:Bool) (b3_4 b3_5:Int) (b4:List Int) (b5:Bool) (b5_1:List I) (b5_2 b5_3:Int) (b6 b7:List I):Option (Zjd⊕ZvR):=bif decide (s12<(b7.length:Int)) then bif decide (0≤s12) then Za b7[s12.toNat]? none fun d42=>Za b7[s12.toNat]? none fun d43=>Za (Kz (s3,s0,true,s12,b1_4,b0_4,())) none fun d44=>Za (Zz (d43,d44,())) none fun d45=>bif decide (0≤s12) then Za b7[s12.toNat]? none fun d46=>Za b7[s12.toNat]? none fun d47=>some (.inl (s0,s3,IntKind.i64.wrap (s12+1),b0,b0_1,b0_2,b0_3,b0_4,b0_5,b0_6,b0_7,b0_8,b1,b1_1,b1_2,b1_3,b1_4,b1_5,b2,b2_1,b2_2,b2_3,b2_4,b2_5,b3,b3_1,b3_2,b3_3,b3_4,b3_5,b4,b5,b5_1,b5_2,b5_3,b6,b7.set s12.toNat d45)) else none else none else some (.inr (b0,b0_1,b0_2,b0_3,b0_4,b0_5,b0_6,b0_7,b0_8,b1,b1_1,b1_2,b1_3,b1_4,b1_5,b2,b2_1,b2_2,b2_3,b2_4,b2_5,b3,b3_1,b3_2,b3_3,b3_4,b3_5,b4,b5,b5_1,b5_2,b5_3,b6,b7))
def Zrg:Zbu→Option (Zbu⊕Zdu):=fun (a,b,c,d,e,f,g,h,i,j,k,l,m,n,o,p,q,r,s,t,u,w,y,z,au,aw,ay,az,bu,bw,bz,cu,cw,cy,cz,du,dw)=>Zaf a b c d e f g h i j k l m n o p q r s t u w y z au aw ay az bu bw bz cu cw cy cz du dw
def ZfS (x:Zbu):Option Zdu:=Zh Zrg Zl x
abbrev Zbt:=Zje
abbrev Zdt:=ZvS
def Zae (s0:Int) (s3:List En) (s12 b0 b0_1 b0_2 b0_3 b0_4 b0_5 b0_6 b0_7 b0_8:Int) (b1:Bool) (b1_1 b1_2 b1_3:List I) (b1_4 b1_5:Int) (b2:Bool) (b2_1 b2_2:Int) (b2_3:Bool) (b2_4 b2_5:Int) (b3:Bool) (b3_1 b3_2:Int) (b3_3:Bool) (b3_4 b3_5:Int) (b4:Bool) (b4_1:List I) (b4_2 b4_3:Int) (b5 b6:List I):Option (Zje⊕ZvS):=bif decide (s12<(b6.length:Int)) then bif decide (0≤s12) then Za b6[s12.toNat]? none fun d41=>Za b6[s12.toNat]? none fun d42=>Za (Kz (s3,s0,true,s12,b1_4,b0_4,())) none fun d43=>Za (Zz (d42,d43,())) none fun d44=>bif decide (0≤s12) then Za b6[s12.toNat]? none fun d45=>Za b6[s12.toNat]? none fun d46=>some (.inl (s0,s3,IntKind.i64.wrap (s12+1),b0,b0_1,b0_2,b0_3,b0_4,b0_5,b0_6,b0_7,b0_8,b1,b1_1,b1_2,b1_3,b1_4,b1_5,b2,b2_1,b2_2,b2_3,b2_4,b2_5,b3,b3_1,b3_2,b3_3,b3_4,b3_5,b4,b4_1,b4_2,b4_3,b5,b6.set s12.toNat d44)) else none else none else some (.inr (b0,b0_1,b0_2,b0_3,b0_4,b0_5,b0_6,b0_7,b0_8,b1,b1_1,b1_2,b1_3,b1_4,b1_5,b2,b2_1,b2_2,b2_3,b2_4,b2_5,b3,b3_1,b3_2,b3_3,b3_4,b3_5,b4,b4_1,b4_2,b4_3,b5,b6))
def Zrf:Zbt→Option (Zbt⊕Zdt):=fun (a,b,c,d,e,f,g,h,i,j,k,l,m,n,o,p,q,r,s,t,u,w,y,z,au,aw,ay,az,bu,bw,bz,cu,cw,cy,cz,du)=>Zae a b c d e f g h i j k l m n o p q r s t u w y z au aw ay az bu bw bz cu cw cy cz du
def ZfR (x:Zbt):Option Zdt:=Zh Zrf Zl x
def ZHz (a0:Int) (a1:A) (a2:E) (a3:List En):Option O:=Za (YE (a2.2.2.2.2.2,a1.2.2.2.2.1,())) none fun d9=>bif d9 then Za (YE (a2.2.2.2.2.1,a1.2.2.2.2.1,())) none fun d10=>bif d10 then some (((false,[],[],[],0,0):E),((false,[],[],[],0,0):E),[11],[],[]) else bif decide (((List.length (α:=I) [])+List.length a2.2.2.1+1)*16≤lim) then bif decide (((List.length (α:=I) [])+List.length a2.2.2.2.1+1)*16≤lim) then Za (ZfQ (a0,a3,0,a1.1,a1.2.1,a1.2.2.1,a1.2.2.2.1,a1.2.2.2.2.1,a1.2.2.2.2.2.1,a1.2.2.2.2.2.2.1,a1.2.2.2.2.2.2.2.1,a1.2.2.2.2.2.2.2.2,a2.1,a2.2.1,a2.2.2.1,a2.2.2.2.1,a2.2.2.2.2.1,a2.2.2.2.2.2,false,0,0,false,0,0,false,0,0,false,0,0,[11],a2.1,a2.2.1,a2.2.2.2.2.1,a2.2.2.2.2.2,[]++a2.2.2.1,[]++a2.2.2.2.1)) none fun d11=>Za (ZfS (d11.1,d11.2.1,0,d11.2.2)) none fun d12=>Za (Zie (d12.2.2.2.2.2.2.2.2.2.2.2.2.2.1,[d12.2.2.2.2.1],())) none fun d13=>Za (Zie (d12.2.2.2.2.2.2.2.2.2.2.2.2.2.2.1,[d12.2.2.2.2.1],())) none fun d14=>some ((d12.2.2.2.2.2.2.2.2.2.2.2.2.2.2.2.2.2.2.2.2.2.2.2.2.2.2.2.2.1,d12.2.2.2.2.2.2.2.2.2.2.2.2.2.2.2.2.2.2.2.2.2.2.2.2.2.2.2.2.2.1,d12.2.2.2.2.2.2.2.2.2.2.2.2.2.2.2.2.2.2.2.2.2.2.2.2.2.2.2.2.2.2.2.2.1,d12.2.2.2.2.2.2.2.2.2.2.2.2.2.2.2.2.2.2.2.2.2.2.2.2.2.2.2.2.2.2.2.2.2,d13,d14),(d12.2.2.2.2.2.2.2.2.2.2.2.2.2.2.2.2.2.2.2.2.2.2.2.2.1,[],[],[],d12.2.2.2.2.2.2.2.2.2.2.2.2.2.2.2.2.2.2.2.2.2.2.2.2.2.1,d12.2.2.2.2.2.2.2.2.2.2.2.2.2.2.2.2.2.2.2.2.2.2.2.2.2.2.1),d12.2.2.2.2.2.2.2.2.2.2.2.2.2.2.2.2.2.2.2.2.2.2.2.2.2.2.2.1,[],[]) else none else none else Za (YE (a2.2.2.2.2.1,a1.2.2.2.2.1,())) none fun d10=>
 bif d10 then some (((false,[],[],[],0,0):E),((false,[],[],[],0,0):E),[],[],[]) else bif decide (((List.length (α:=I) [])+List.length a2.2.2.1+1)*16≤lim) then bif decide (((List.length (α:=I) [])+List.length a2.2.2.2.1+1)*16≤lim) then Za (ZfP (a0,a3,0,a1.1,a1.2.1,a1.2.2.1,a1.2.2.2.1,a1.2.2.2.2.1,a1.2.2.2.2.2.1,a1.2.2.2.2.2.2.1,a1.2.2.2.2.2.2.2.1,a1.2.2.2.2.2.2.2.2,a2.1,a2.2.1,a2.2.2.1,a2.2.2.2.1,a2.2.2.2.2.1,a2.2.2.2.2.2,false,0,0,false,0,0,false,0,0,false,0,0,a2.1,a2.2.1,a2.2.2.2.2.1,a2.2.2.2.2.2,[]++a2.2.2.1,[]++a2.2.2.2.1)) none fun d11=>Za (ZfR (d11.1,d11.2.1,0,d11.2.2)) none fun d12=>Za (Zie (d12.2.2.2.2.2.2.2.2.2.2.2.2.2.1,[d12.2.2.2.2.1],())) none fun d13=>Za (Zie (d12.2.2.2.2.2.2.2.2.2.2.2.2.2.2.1,[d12.2.2.2.2.1],())) none fun d14=>some ((d12.2.2.2.2.2.2.2.2.2.2.2.2.2.2.2.2.2.2.2.2.2.2.2.2.2.2.2.1,d12.2.2.2.2.2.2.2.2.2.2.2.2.2.2.2.2.2.2.2.2.2.2.2.2.2.2.2.2.1,d12.2.2.2.2.2.2.2.2.2.2.2.2.2.2.2.2.2.2.2.2.2.2.2.2.2.2.2.2.2.2.2.1,d12.2.2.2.2.2.2.2.2.2.2.2.2.2.2.2.2.2.2.2.2.2.2.2.2.2.2.2.2.2.2.2.2,d13,d14),(d12.2.2.2.2.2.2.2.2.2.2.2.2.2.2.2.2.2.2.2.2.2.2.2.2.1,[],[],[],d12.2.2.2.2.2.2.2.2.2.2.2.2.2.2.2.2.2.2.2.2.2.2.2.2.2.1,d12.2.2.2.2.2.2.2.2.2.2.2.2.2.2.2.2.2.2.2.2.2.2.2.2.2.2.1),[],[],[]) else none else none
def ZmJ (x:(Int×(A×(E×((List En)×Unit))))):Option O:=ZHz x.1 x.2.1 x.2.2.1 x.2.2.2.1
def gmap (l:List En) (t:Int) (ar:Bool) (must m:Int) (r:List I):List I:=r.mapIdx fun i d=>rJoin d (gainV l t ar i must m)
theorem Vn {s0:Int} {s0_1:Int} {s0_2:Int} {s0_3:Int} {s0_4:Int} {s0_5:Int} {s0_6:Int} {s0_7:Int} {s0_8:Int} {s0_9:(List Int)} {s0_10:(List Int)} {s0_11:Int} {s0_12:(List C)} {s0_13:Int} {s0_14:Int} {s0_15:Bool} {s0_16:(List I)} {s0_17:(List I)} {s0_18:(List I)} {s0_19:Int} {s0_20:Int} {s0_21:(List En)} {s0_22:Bool} {s0_23:(List I)} {s0_24:(List I)} {s0_25:(List I)} {s0_26:Int} {s0_27:Int} {s0_28:Bool} {s0_29:(List I)} {s0_30:(List I)} {s0_31:(List I)} {s0_32:Int} {s0_33:Int} {s0_34:(List Int)} {s0_35:(List En)} {s0_36:(List Ac)} {s2:Bool} {l:List I} (hh:0≤s0_19∧s0_19<2147483648) (he:∀ e∈s0_21,entOK e) (hn:s0_21.length<1000000000000) (hl:l.length<9223372036854775807):WB (s0,s0_1,s0_2,s0_3,s0_4,s0_5,s0_6,s0_7,s0_8,s0_9,s0_10,s0_11,s0_12,s0_13,s0_14,s0_15,s0_16,s0_17,s0_18,s0_19,s0_20,s0_21,s0_22,s0_23,s0_24,s0_25,s0_26,s0_27,s0_28,s0_29,s0_30,s0_31,s0_32,s0_33,s0_34,s0_35,s0_36,s2,(l.length:Int),0,l)=some (gmap s0_21 s0_13 s2 s0_19 s0_4 l):=by
 unfold WB
 refine Zps (fun i r=>((s0,s0_1,s0_2,s0_3,s0_4,s0_5,s0_6,s0_7,s0_8,s0_9,s0_10,s0_11,s0_12,s0_13,s0_14,s0_15,s0_16,s0_17,s0_18,s0_19,s0_20,s0_21,s0_22,s0_23,s0_24,s0_25,s0_26,s0_27,s0_28,s0_29,s0_30,s0_31,s0_32,s0_33,s0_34,s0_35,s0_36,s2,(l.length:Int),(i:Int),r):(Int×Int×Int×Int×Int×Int×Int×Int×Int×(List Int)×(List Int)×Int×(List C)×Int×Int×Bool×(List I)×(List I)×(List I)×Int×Int×(List En)×Bool×(List I)×(List I)×(List I)×Int×Int×Bool×(List I)×(List I)×(List I)×Int×Int×(List Int)×(List En)×(List Ac)×Bool×Int×Int×(List I)))) (fun i d=>rJoin d (gainV s0_21 s0_13 s2 i s0_19 s0_4)) (fun r=>(r:(List I))) l ?_ ?_ hl
 ·intro i d r hi hr hd
  have hj:i<l.length:=(List.getElem?_eq_some_iff.1 hi).1
  have e1:decide ((i:Int)<(l.length:Int))=true:=dT0 (by omega)
  have e2:decide (0≤(i:Int))=true:=dT0 (by omega)
  have e3:Int.toNat (i:Int)=i:=tN0 i
  have e4:=Zq hj (Nat.le_of_lt hl)
  show Kq (s0) (s0_1) (s0_2) (s0_3) (s0_4) (s0_5) (s0_6) (s0_7) (s0_8) (s0_9) (s0_10) (s0_11) (s0_12) (s0_13) (s0_14) (s0_15) (s0_16) (s0_17) (s0_18) (s0_19) (s0_20) (s0_21) (s0_22) (s0_23) (s0_24) (s0_25) (s0_26) (s0_27) (s0_28) (s0_29) (s0_30) (s0_31) (s0_32) (s0_33) (s0_34) (s0_35) (s0_36) (s2) ((l.length:Int)) ((i:Int)) (r)=_
  unfold Kq Zp5 ZM
  simp only [e1,e2,e3,e4,hd,cond_true,Zb,ZTd _ _ _ _ _ _ hh he (by omega),WF,Zca (ZsB he)]
 ·intro r hr
  have e1:decide ((l.length:Int)<(l.length:Int))=false:=dF0 (by omega)
  show Kq (s0) (s0_1) (s0_2) (s0_3) (s0_4) (s0_5) (s0_6) (s0_7) (s0_8) (s0_9) (s0_10) (s0_11) (s0_12) (s0_13) (s0_14) (s0_15) (s0_16) (s0_17) (s0_18) (s0_19) (s0_20) (s0_21) (s0_22) (s0_23) (s0_24) (s0_25) (s0_26) (s0_27) (s0_28) (s0_29) (s0_30) (s0_31) (s0_32) (s0_33) (s0_34) (s0_35) (s0_36) (s2) ((l.length:Int)) ((l.length:Int)) (r)=_
  unfold Kq
  rw [e1]
  rfl
theorem ZDj {s0:Int} {s3:(List En)} {b0:Int} {b0_1:Int} {b0_2:Int} {b0_3:Int} {b0_4:Int} {b0_5:Int} {b0_6:Int} {b0_7:Int} {b0_8:Int} {b1:Bool} {b1_1:(List I)} {b1_2:(List I)} {b1_3:(List I)} {b1_4:Int} {b1_5:Int} {b2:Bool} {b2_1:Int} {b2_2:Int} {b2_3:Bool} {b2_4:Int} {b2_5:Int} {b3:Bool} {b3_1:Int} {b3_2:Int} {b3_3:Bool} {b3_4:Int} {b3_5:Int} {b4:Bool} {b4_1:(List I)} {b4_2:Int} {b4_3:Int} {b6:(List I)} {l:List I} (hh:0≤b1_4∧b1_4<2147483648) (he:∀ e∈s3,entOK e) (hn:s3.length<1000000000000) (hl:l.length<9223372036854775807):ZfP (s0,s3,0,b0,b0_1,b0_2,b0_3,b0_4,b0_5,b0_6,b0_7,b0_8,b1,b1_1,b1_2,b1_3,b1_4,b1_5,b2,b2_1,b2_2,b2_3,b2_4,b2_5,b3,b3_1,b3_2,b3_3,b3_4,b3_5,b4,b4_1,b4_2,b4_3,l,b6)=some (s0,s3,b0,b0_1,b0_2,b0_3,b0_4,b0_5,b0_6,b0_7,b0_8,b1,b1_1,b1_2,b1_3,b1_4,b1_5,b2,b2_1,b2_2,b2_3,b2_4,b2_5,b3,b3_1,b3_2,b3_3,b3_4,b3_5,b4,b4_1,b4_2,b4_3,(gmap s3 s0 Bool.false b1_4 b0_4 l),b6):=by
 unfold ZfP
 refine Zps (fun i r=>((s0,s3,(i:Int),b0,b0_1,b0_2,b0_3,b0_4,b0_5,b0_6,b0_7,b0_8,b1,b1_1,b1_2,b1_3,b1_4,b1_5,b2,b2_1,b2_2,b2_3,b2_4,b2_5,b3,b3_1,b3_2,b3_3,b3_4,b3_5,b4,b4_1,b4_2,b4_3,r,b6):(Int×(List En)×Int×Int×Int×Int×Int×Int×Int×Int×Int×Int×Bool×(List I)×(List I)×(List I)×Int×Int×Bool×Int×Int×Bool×Int×Int×Bool×Int×Int×Bool×Int×Int×Bool×(List I)×Int×Int×(List I)×(List I)))) (fun i d=>rJoin d (gainV s3 s0 Bool.false i b1_4 b0_4)) (fun r=>((s0,s3,b0,b0_1,b0_2,b0_3,b0_4,b0_5,b0_6,b0_7,b0_8,b1,b1_1,b1_2,b1_3,b1_4,b1_5,b2,b2_1,b2_2,b2_3,b2_4,b2_5,b3,b3_1,b3_2,b3_3,b3_4,b3_5,b4,b4_1,b4_2,b4_3,r,b6):(Int×(List En)×Int×Int×Int×Int×Int×Int×Int×Int×Int×Bool×(List I)×(List I)×(List I)×Int×Int×Bool×Int×Int×Bool×Int×Int×Bool×Int×Int×Bool×Int×Int×Bool×(List I)×Int×Int×(List I)×(List I)))) l ?_ ?_ hl
 ·intro i d r hi hr hd
  have hj:i<l.length:=(List.getElem?_eq_some_iff.1 hi).1
  have e1:decide ((i:Int)<(r.length:Int))=true:=dT0 (by omega)
  have e2:decide (0≤(i:Int))=true:=dT0 (by omega)
  have e3:Int.toNat (i:Int)=i:=tN0 i
  have e4:=Zq hj (Nat.le_of_lt hl)
  show Zac (s0) (s3) ((i:Int)) (b0) (b0_1) (b0_2) (b0_3) (b0_4) (b0_5) (b0_6) (b0_7) (b0_8) (b1) (b1_1) (b1_2) (b1_3) (b1_4) (b1_5) (b2) (b2_1) (b2_2) (b2_3) (b2_4) (b2_5) (b3) (b3_1) (b3_2) (b3_3) (b3_4) (b3_5) (b4) (b4_1) (b4_2) (b4_3) (r) (b6)=_
  unfold Zac Kz Zz
  simp only [e1,e2,e3,e4,hd,cond_true,Zb,ZnG _ _ _ _ _ _ hh he hn,JP,Zca (ZsB he)]
 ·intro r hr
  have e1:decide ((l.length:Int)<(r.length:Int))=false:=dF0 (by omega)
  show Zac (s0) (s3) ((l.length:Int)) (b0) (b0_1) (b0_2) (b0_3) (b0_4) (b0_5) (b0_6) (b0_7) (b0_8) (b1) (b1_1) (b1_2) (b1_3) (b1_4) (b1_5) (b2) (b2_1) (b2_2) (b2_3) (b2_4) (b2_5) (b3) (b3_1) (b3_2) (b3_3) (b3_4) (b3_5) (b4) (b4_1) (b4_2) (b4_3) (r) (b6)=_
  unfold Zac
  rw [e1]
  rfl
theorem ZDk {s0:Int} {s3:(List En)} {b0:Int} {b0_1:Int} {b0_2:Int} {b0_3:Int} {b0_4:Int} {b0_5:Int} {b0_6:Int} {b0_7:Int} {b0_8:Int} {b1:Bool} {b1_1:(List I)} {b1_2:(List I)} {b1_3:(List I)} {b1_4:Int} {b1_5:Int} {b2:Bool} {b2_1:Int} {b2_2:Int} {b2_3:Bool} {b2_4:Int} {b2_5:Int} {b3:Bool} {b3_1:Int} {b3_2:Int} {b3_3:Bool} {b3_4:Int} {b3_5:Int} {b4:(List Int)} {b5:Bool} {b5_1:(List I)} {b5_2:Int} {b5_3:Int} {b7:(List I)} {l:List I} (hh:0≤b1_4∧b1_4<2147483648) (he:∀ e∈s3,entOK e) (hn:s3.length<1000000000000) (hl:l.length<9223372036854775807):ZfQ (s0,s3,0,b0,b0_1,b0_2,b0_3,b0_4,b0_5,b0_6,b0_7,b0_8,b1,b1_1,b1_2,b1_3,b1_4,b1_5,b2,b2_1,b2_2,b2_3,b2_4,b2_5,b3,b3_1,b3_2,b3_3,b3_4,b3_5,b4,b5,b5_1,b5_2,b5_3,l,b7)=some (s0,s3,b0,b0_1,b0_2,b0_3,b0_4,b0_5,b0_6,b0_7,b0_8,b1,b1_1,b1_2,b1_3,b1_4,b1_5,b2,b2_1,b2_2,b2_3,b2_4,b2_5,b3,b3_1,b3_2,b3_3,b3_4,b3_5,b4,b5,b5_1,b5_2,b5_3,(gmap s3 s0 Bool.false b1_4 b0_4 l),b7):=by
 unfold ZfQ
 refine Zps (fun i r=>((s0,s3,(i:Int),b0,b0_1,b0_2,b0_3,b0_4,b0_5,b0_6,b0_7,b0_8,b1,b1_1,b1_2,b1_3,b1_4,b1_5,b2,b2_1,b2_2,b2_3,b2_4,b2_5,b3,b3_1,b3_2,b3_3,b3_4,b3_5,b4,b5,b5_1,b5_2,b5_3,r,b7):(Int×(List En)×Int×Int×Int×Int×Int×Int×Int×Int×Int×Int×Bool×(List I)×(List I)×(List I)×Int×Int×Bool×Int×Int×Bool×Int×Int×Bool×Int×Int×Bool×Int×Int×(List Int)×Bool×(List I)×Int×Int×(List I)×(List I)))) (fun i d=>rJoin d (gainV s3 s0 Bool.false i b1_4 b0_4)) (fun r=>((s0,s3,b0,b0_1,b0_2,b0_3,b0_4,b0_5,b0_6,b0_7,b0_8,b1,b1_1,b1_2,b1_3,b1_4,b1_5,b2,b2_1,b2_2,b2_3,b2_4,b2_5,b3,b3_1,b3_2,b3_3,b3_4,b3_5,b4,b5,b5_1,b5_2,b5_3,r,b7):(Int×(List En)×Int×Int×Int×Int×Int×Int×Int×Int×Int×Bool×(List I)×(List I)×(List I)×Int×Int×Bool×Int×Int×Bool×Int×Int×Bool×Int×Int×Bool×Int×Int×(List Int)×Bool×(List I)×Int×Int×(List I)×(List I)))) l ?_ ?_ hl
 ·intro i d r hi hr hd
  have hj:i<l.length:=(List.getElem?_eq_some_iff.1 hi).1
  have e1:decide ((i:Int)<(r.length:Int))=true:=dT0 (by omega)
  have e2:decide (0≤(i:Int))=true:=dT0 (by omega)
  have e3:Int.toNat (i:Int)=i:=tN0 i
  have e4:=Zq hj (Nat.le_of_lt hl)
  show Zad (s0) (s3) ((i:Int)) (b0) (b0_1) (b0_2) (b0_3) (b0_4) (b0_5) (b0_6) (b0_7) (b0_8) (b1) (b1_1) (b1_2) (b1_3) (b1_4) (b1_5) (b2) (b2_1) (b2_2) (b2_3) (b2_4) (b2_5) (b3) (b3_1) (b3_2) (b3_3) (b3_4) (b3_5) (b4) (b5) (b5_1) (b5_2) (b5_3) (r) (b7)=_
  unfold Zad Kz Zz
  simp only [e1,e2,e3,e4,hd,cond_true,Zb,ZnG _ _ _ _ _ _ hh he hn,JP,Zca (ZsB he)]
 ·intro r hr
  have e1:decide ((l.length:Int)<(r.length:Int))=false:=dF0 (by omega)
  show Zad (s0) (s3) ((l.length:Int)) (b0) (b0_1) (b0_2) (b0_3) (b0_4) (b0_5) (b0_6) (b0_7) (b0_8) (b1) (b1_1) (b1_2) (b1_3) (b1_4) (b1_5) (b2) (b2_1) (b2_2) (b2_3) (b2_4) (b2_5) (b3) (b3_1) (b3_2) (b3_3) (b3_4) (b3_5) (b4) (b5) (b5_1) (b5_2) (b5_3) (r) (b7)=_
  unfold Zad
  rw [e1]
  rfl
theorem ZDl {s0:Int} {s3:(List En)} {b0:Int} {b0_1:Int} {b0_2:Int} {b0_3:Int} {b0_4:Int} {b0_5:Int} {b0_6:Int} {b0_7:Int} {b0_8:Int} {b1:Bool} {b1_1:(List I)} {b1_2:(List I)} {b1_3:(List I)} {b1_4:Int} {b1_5:Int} {b2:Bool} {b2_1:Int} {b2_2:Int} {b2_3:Bool} {b2_4:Int} {b2_5:Int} {b3:Bool} {b3_1:Int} {b3_2:Int} {b3_3:Bool} {b3_4:Int} {b3_5:Int} {b4:Bool} {b4_1:(List I)} {b4_2:Int} {b4_3:Int} {b5:(List I)} {l:List I} (hh:0≤b1_4∧b1_4<2147483648) (he:∀ e∈s3,entOK e) (hn:s3.length<1000000000000) (hl:l.length<9223372036854775807):ZfR (s0,s3,0,b0,b0_1,b0_2,b0_3,b0_4,b0_5,b0_6,b0_7,b0_8,b1,b1_1,b1_2,b1_3,b1_4,b1_5,b2,b2_1,b2_2,b2_3,b2_4,b2_5,b3,b3_1,b3_2,b3_3,b3_4,b3_5,b4,b4_1,b4_2,b4_3,b5,l)=some (b0,b0_1,b0_2,b0_3,b0_4,b0_5,b0_6,b0_7,b0_8,b1,b1_1,b1_2,b1_3,b1_4,b1_5,b2,b2_1,b2_2,b2_3,b2_4,b2_5,b3,b3_1,b3_2,b3_3,b3_4,b3_5,b4,b4_1,b4_2,b4_3,b5,(gmap s3 s0 Bool.true b1_4 b0_4 l)):=by
 unfold ZfR
 refine Zps (fun i r=>((s0,s3,(i:Int),b0,b0_1,b0_2,b0_3,b0_4,b0_5,b0_6,b0_7,b0_8,b1,b1_1,b1_2,b1_3,b1_4,b1_5,b2,b2_1,b2_2,b2_3,b2_4,b2_5,b3,b3_1,b3_2,b3_3,b3_4,b3_5,b4,b4_1,b4_2,b4_3,b5,r):(Int×(List En)×Int×Int×Int×Int×Int×Int×Int×Int×Int×Int×Bool×(List I)×(List I)×(List I)×Int×Int×Bool×Int×Int×Bool×Int×Int×Bool×Int×Int×Bool×Int×Int×Bool×(List I)×Int×Int×(List I)×(List I)))) (fun i d=>rJoin d (gainV s3 s0 Bool.true i b1_4 b0_4)) (fun r=>((b0,b0_1,b0_2,b0_3,b0_4,b0_5,b0_6,b0_7,b0_8,b1,b1_1,b1_2,b1_3,b1_4,b1_5,b2,b2_1,b2_2,b2_3,b2_4,b2_5,b3,b3_1,b3_2,b3_3,b3_4,b3_5,b4,b4_1,b4_2,b4_3,b5,r):(Int×Int×Int×Int×Int×Int×Int×Int×Int×Bool×(List I)×(List I)×(List I)×Int×Int×Bool×Int×Int×Bool×Int×Int×Bool×Int×Int×Bool×Int×Int×Bool×(List I)×Int×Int×(List I)×(List I)))) l ?_ ?_ hl
 ·intro i d r hi hr hd
  have hj:i<l.length:=(List.getElem?_eq_some_iff.1 hi).1
  have e1:decide ((i:Int)<(r.length:Int))=true:=dT0 (by omega)
  have e2:decide (0≤(i:Int))=true:=dT0 (by omega)
  have e3:Int.toNat (i:Int)=i:=tN0 i
  have e4:=Zq hj (Nat.le_of_lt hl)
  show Zae (s0) (s3) ((i:Int)) (b0) (b0_1) (b0_2) (b0_3) (b0_4) (b0_5) (b0_6) (b0_7) (b0_8) (b1) (b1_1) (b1_2) (b1_3) (b1_4) (b1_5) (b2) (b2_1) (b2_2) (b2_3) (b2_4) (b2_5) (b3) (b3_1) (b3_2) (b3_3) (b3_4) (b3_5) (b4) (b4_1) (b4_2) (b4_3) (b5) (r)=_
  unfold Zae Kz Zz
  simp only [e1,e2,e3,e4,hd,cond_true,Zb,ZnG _ _ _ _ _ _ hh he hn,JP,Zca (ZsB he)]
 ·intro r hr
  have e1:decide ((l.length:Int)<(r.length:Int))=false:=dF0 (by omega)
  show Zae (s0) (s3) ((l.length:Int)) (b0) (b0_1) (b0_2) (b0_3) (b0_4) (b0_5) (b0_6) (b0_7) (b0_8) (b1) (b1_1) (b1_2) (b1_3) (b1_4) (b1_5) (b2) (b2_1) (b2_2) (b2_3) (b2_4) (b2_5) (b3) (b3_1) (b3_2) (b3_3) (b3_4) (b3_5) (b4) (b4_1) (b4_2) (b4_3) (b5) (r)=_
  unfold Zae
  rw [e1]
  rfl
theorem ZDm {s0:Int} {s3:(List En)} {b0:Int} {b0_1:Int} {b0_2:Int} {b0_3:Int} {b0_4:Int} {b0_5:Int} {b0_6:Int} {b0_7:Int} {b0_8:Int} {b1:Bool} {b1_1:(List I)} {b1_2:(List I)} {b1_3:(List I)} {b1_4:Int} {b1_5:Int} {b2:Bool} {b2_1:Int} {b2_2:Int} {b2_3:Bool} {b2_4:Int} {b2_5:Int} {b3:Bool} {b3_1:Int} {b3_2:Int} {b3_3:Bool} {b3_4:Int} {b3_5:Int} {b4:(List Int)} {b5:Bool} {b5_1:(List I)} {b5_2:Int} {b5_3:Int} {b6:(List I)} {l:List I} (hh:0≤b1_4∧b1_4<2147483648) (he:∀ e∈s3,entOK e) (hn:s3.length<1000000000000) (hl:l.length<9223372036854775807):ZfS (s0,s3,0,b0,b0_1,b0_2,b0_3,b0_4,b0_5,b0_6,b0_7,b0_8,b1,b1_1,b1_2,b1_3,b1_4,b1_5,b2,b2_1,b2_2,b2_3,b2_4,b2_5,b3,b3_1,b3_2,b3_3,b3_4,b3_5,b4,b5,b5_1,b5_2,b5_3,b6,l)=some (b0,b0_1,b0_2,b0_3,b0_4,b0_5,b0_6,b0_7,b0_8,b1,b1_1,b1_2,b1_3,b1_4,b1_5,b2,b2_1,b2_2,b2_3,b2_4,b2_5,b3,b3_1,b3_2,b3_3,b3_4,b3_5,b4,b5,b5_1,b5_2,b5_3,b6,(gmap s3 s0 Bool.true b1_4 b0_4 l)):=by
 unfold ZfS
 refine Zps (fun i r=>((s0,s3,(i:Int),b0,b0_1,b0_2,b0_3,b0_4,b0_5,b0_6,b0_7,b0_8,b1,b1_1,b1_2,b1_3,b1_4,b1_5,b2,b2_1,b2_2,b2_3,b2_4,b2_5,b3,b3_1,b3_2,b3_3,b3_4,b3_5,b4,b5,b5_1,b5_2,b5_3,b6,r):(Int×(List En)×Int×Int×Int×Int×Int×Int×Int×Int×Int×Int×Bool×(List I)×(List I)×(List I)×Int×Int×Bool×Int×Int×Bool×Int×Int×Bool×Int×Int×Bool×Int×Int×(List Int)×Bool×(List I)×Int×Int×(List I)×(List I)))) (fun i d=>rJoin d (gainV s3 s0 Bool.true i b1_4 b0_4)) (fun r=>((b0,b0_1,b0_2,b0_3,b0_4,b0_5,b0_6,b0_7,b0_8,b1,b1_1,b1_2,b1_3,b1_4,b1_5,b2,b2_1,b2_2,b2_3,b2_4,b2_5,b3,b3_1,b3_2,b3_3,b3_4,b3_5,b4,b5,b5_1,b5_2,b5_3,b6,r):(Int×Int×Int×Int×Int×Int×Int×Int×Int×Bool×(List I)×(List I)×(List I)×Int×Int×Bool×Int×Int×Bool×Int×Int×Bool×Int×Int×Bool×Int×Int×(List Int)×Bool×(List I)×Int×Int×(List I)×(List I)))) l ?_ ?_ hl
 ·intro i d r hi hr hd
  have hj:i<l.length:=(List.getElem?_eq_some_iff.1 hi).1
  have e1:decide ((i:Int)<(r.length:Int))=true:=dT0 (by omega)
  have e2:decide (0≤(i:Int))=true:=dT0 (by omega)
  have e3:Int.toNat (i:Int)=i:=tN0 i
  have e4:=Zq hj (Nat.le_of_lt hl)
  show Zaf (s0) (s3) ((i:Int)) (b0) (b0_1) (b0_2) (b0_3) (b0_4) (b0_5) (b0_6) (b0_7) (b0_8) (b1) (b1_1) (b1_2) (b1_3) (b1_4) (b1_5) (b2) (b2_1) (b2_2) (b2_3) (b2_4) (b2_5) (b3) (b3_1) (b3_2) (b3_3) (b3_4) (b3_5) (b4) (b5) (b5_1) (b5_2) (b5_3) (b6) (r)=_
  unfold Zaf Kz Zz
  simp only [e1,e2,e3,e4,hd,cond_true,Zb,ZnG _ _ _ _ _ _ hh he hn,JP,Zca (ZsB he)]
 ·intro r hr
  have e1:decide ((l.length:Int)<(r.length:Int))=false:=dF0 (by omega)
  show Zaf (s0) (s3) ((l.length:Int)) (b0) (b0_1) (b0_2) (b0_3) (b0_4) (b0_5) (b0_6) (b0_7) (b0_8) (b1) (b1_1) (b1_2) (b1_3) (b1_4) (b1_5) (b2) (b2_1) (b2_2) (b2_3) (b2_4) (b2_5) (b3) (b3_1) (b3_2) (b3_3) (b3_4) (b3_5) (b4) (b5) (b5_1) (b5_2) (b5_3) (b6) (r)=_
  unfold Zaf
  rw [e1]
  rfl
def ZUF:List Sh:=[.dat (.int .i64)]
def ZYR:List Con:=[]
def Ztz (a0:Int):Option Int:=bif a0==1 then some 5 else bif a0==2 then some 6 else bif a0==3 then some 4 else bif a0==4 then some 3 else bif a0==5 then some 1 else bif a0==6 then some 2 else some a0
def Q7 (x:Int×Unit):Option Int:=Ztz x.1
def ZKi:=conP true ZUF (.dat (.int .i64)) Q7
theorem ZVN:Zf Tryz.prog 139 ZKi:=Ze (calU ZYR [] 40 1048576 8 139) true (by rfl) (by rfl) (fun x r e=>(Zk _ _ _ _ _ _ _).trans ((show _=Q7 x by kernel_rfl).trans e)) (.inl rfl)
def ZRJ:List Sh:=[.dat tU,.dat (.int .i64)]
def ZVP:List Con:=[]
def Zqs (a0:U) (a1:Int):Option E:=some ((false,[],[],[],0,0):E)
def Znu (x:U×(Int×Unit)):Option E:=Zqs x.1 x.2.1
def ZwE:=conP true ZRJ (.dat tE) Znu
theorem ZIs:Zf Tryz.prog 77 ZwE:=Ze (calU ZVP [] 40 1048576 8 77) true (by rfl) (by rfl) (fun x r e=>(Zk _ _ _ _ _ _ _).trans ((show _=Znu x by kernel_rfl).trans e)) (.inl rfl)
def ZUC:List Sh:=[.dat tU,.dat (.int .i64),.dat (.int .i64),.dat tE,.dat (.sl tEn)]
def ZYO:List Con:=[⟨79,ZCn,ZM3⟩,⟨130,Zs6,Zz6⟩,⟨133,ZEK,ZQS⟩,⟨139,ZKi,ZVN⟩,⟨179,ZAo,ZOH⟩,⟨174,ZmO,Zq0⟩,⟨153,Km,YC⟩,⟨77,ZwE,ZIs⟩,⟨173,ZeB,Zk5⟩,⟨175,Zqb,ZxN⟩,⟨178,ZwG,ZLL⟩,⟨176,ZrB,ZGy⟩,⟨177,ZEM,ZQU⟩,⟨126,Zov,Zti⟩,⟨111,HU,W4⟩,⟨170,ZMe,ZYK⟩]
def bF (u:U) (t n:Int) (e:E) (l:List En) (c:C) (a:A):Option O:=bif a.1==1 then Za (Zo8 ([a.2.2.2.2.2.1],())) (none) fun d8=>bif decide (((List.length (α:=I) [])+List.length e.2.1+1)*16≤lim) then bif decide (0≤a.2.1) then Za ([]++e.2.1)[Int.toNat a.2.1]? (none) fun d9=>Za ([]++e.2.1)[Int.toNat a.2.1]? (none) fun d10=>some ((e.1,([]++e.2.1).set (Int.toNat a.2.1) d8,e.2.2.1,e.2.2.2.1,e.2.2.2.2.1,e.2.2.2.2.2),(false,[],[],[],0,0),[],[],[]) else none else none else bif a.1==2 then bif decide (0≤a.2.2.1) then Za e.2.1[Int.toNat a.2.2.1]? (none) fun d8=>bif decide (((List.length (α:=I) [])+List.length e.2.1+1)*16≤lim) then bif decide (0≤a.2.1) then Za ([]++e.2.1)[Int.toNat a.2.1]? (none) fun d9=>Za ([]++e.2.1)[Int.toNat a.2.1]? (none) fun d10=>some ((e.1,([]++e.2.1).set (Int.toNat a.2.1) d8,e.2.2.1,e.2.2.2.1,e.2.2.2.2.1,e.2.2.2.2.2),(false,[],[],[],0,0),[],[],[]) else none else none else none else bif a.1==3 then bif decide (((List.length (α:=I) [])+List.length e.2.1+1)*16≤lim) then bif decide (0≤a.2.1) then Za ([]++e.2.1)[Int.toNat a.2.1]? (none) fun d8=>Za ([]++e.2.1)[Int.toNat a.2.1]? (none) fun d9=>some ((e.1,([]++e.2.1).set (Int.toNat a.2.1) (-2147483648,2147483647),e.2.2.1,e.2.2.2.1,e.2.2.2.2.1,e.2.2.2.2.2),(false,[],[],[],0,0),[],[],[]) else none else none else bif a.1==4 then bif decide (0≤a.2.2.1) then Za e.2.1[Int.toNat a.2.2.1]? (none) fun d8=>bif decide (0≤a.2.2.2.1) then Za e.2.1[Int.toNat a.2.2.2.1]? (none) fun d9=>Za (Zsc (a.2.2.2.2.2.2.1,d8,d9,())) (none) fun d10=>bif d10.2.1 then bif d10.2.2.1 then bif !decide (d10.1.1>d10.1.2) then
 bif decide (((List.length (α:=I) [])+List.length e.2.1+1)*16≤lim) then bif decide (0≤a.2.1) then Za ([]++e.2.1)[Int.toNat a.2.1]? (none) fun d11=>Za ([]++e.2.1)[Int.toNat a.2.1]? (none) fun d12=>some ((e.1,([]++e.2.1).set (Int.toNat a.2.1) d10.1,e.2.2.1,e.2.2.2.1,e.2.2.2.2.1,e.2.2.2.2.2),(false,[],[],[],0,0),[7,8],[],[]) else none else none else some ((false,[],[],[],0,0),(false,[],[],[],0,0),[7,8],[],[]) else bif !decide (d10.1.1>d10.1.2) then bif decide (((List.length (α:=I) [])+List.length e.2.1+1)*16≤lim) then bif decide (0≤a.2.1) then Za ([]++e.2.1)[Int.toNat a.2.1]? (none) fun d11=>Za ([]++e.2.1)[Int.toNat a.2.1]? (none) fun d12=>some ((e.1,([]++e.2.1).set (Int.toNat a.2.1) d10.1,e.2.2.1,e.2.2.2.1,e.2.2.2.2.1,e.2.2.2.2.2),(false,[],[],[],0,0),[7],[],[]) else none else none else some ((false,[],[],[],0,0),(false,[],[],[],0,0),[7],[],[]) else bif d10.2.2.1 then bif !decide (d10.1.1>d10.1.2) then bif decide (((List.length (α:=I) [])+List.length e.2.1+1)*16≤lim) then bif decide (0≤a.2.1) then Za ([]++e.2.1)[Int.toNat a.2.1]? (none) fun d11=>Za ([]++e.2.1)[Int.toNat a.2.1]? (none) fun d12=>some ((e.1,([]++e.2.1).set (Int.toNat a.2.1) d10.1,e.2.2.1,e.2.2.2.1,e.2.2.2.2.1,e.2.2.2.2.2),(false,[],[],[],0,0),[8],[],[]) else none else none else some ((false,[],[],[],0,0),(false,[],[],[],0,0),[8],[],[]) else bif !decide (d10.1.1>d10.1.2) then bif decide (((List.length (α:=I) [])+List.length e.2.1+1)*16≤lim) then bif decide (0≤a.2.1) then Za ([]++e.2.1)[Int.toNat a.2.1]? (none) fun d11=>Za ([]++e.2.1)[Int.toNat a.2.1]? (none) fun d12=>
 some ((e.1,([]++e.2.1).set (Int.toNat a.2.1) d10.1,e.2.2.1,e.2.2.2.1,e.2.2.2.2.1,e.2.2.2.2.2),(false,[],[],[],0,0),[],[],[]) else none else none else some ((false,[],[],[],0,0),(false,[],[],[],0,0),[],[],[]) else none else none else bif a.1==5 then Za (Qe (u,t,e,l,false,a.2.2.2.2.1,())) (none) fun d8=>bif decide (((List.length (α:=I) [])+List.length e.2.1+1)*16≤lim) then bif decide (0≤a.2.1) then Za ([]++e.2.1)[Int.toNat a.2.1]? (none) fun d9=>Za ([]++e.2.1)[Int.toNat a.2.1]? (none) fun d10=>some ((e.1,([]++e.2.1).set (Int.toNat a.2.1) d8,e.2.2.1,e.2.2.2.1,e.2.2.2.2.1,e.2.2.2.2.2),(false,[],[],[],0,0),[],[],[(t,n,false,a.2.2.2.2.1,false,e.2.2.2.2.1)]) else none else none else bif a.1==6 then bif decide (0≤a.2.2.1) then Za e.2.1[Int.toNat a.2.2.1]? (none) fun d8=>bif decide (((List.length (α:=I) [])+List.length e.2.2.1+1)*16≤lim) then bif decide (0≤a.2.2.2.2.1) then Za ([]++e.2.2.1)[Int.toNat a.2.2.2.2.1]? (none) fun d9=>Za ([]++e.2.2.1)[Int.toNat a.2.2.2.2.1]? (none) fun d10=>some ((e.1,e.2.1,([]++e.2.2.1).set (Int.toNat a.2.2.2.2.1) d8,e.2.2.2.1,e.2.2.2.2.1,e.2.2.2.2.2),(false,[],[],[],0,0),[],[(t,false,a.2.2.2.2.1,e.2.2.2.2.1,d8.1,d8.2)],[(t,n,false,a.2.2.2.2.1,true,e.2.2.2.2.1)]) else none else none else none else bif a.1==7 then bif decide (0≤a.2.2.2.2.1) then Za u.2.1[Int.toNat a.2.2.2.2.1]? (none) fun d8=>bif decide (0≤a.2.2.1) then Za e.2.1[Int.toNat a.2.2.1]? (none) fun d9=>Za (QB (d9,(0,IntKind.i64.wrap (d8 - 1)),())) (none) fun d10=>bif !d10 then bif a.1==8 then bif decide (0≤a.2.2.2.1) then Za e.2.1[Int.toNat a.2.2.2.1]? (none) fun d11=>
 Za (ZH (d9,(0,IntKind.i64.wrap (d8 - 1)),())) (none) fun d12=>bif decide (d12.1>d12.2) then some ((false,[],[],[],0,0),(false,[],[],[],0,0),[9],[(t,true,a.2.2.2.2.1,e.2.2.2.2.1,d11.1,d11.2)],[(t,n,true,a.2.2.2.2.1,a.1==8,e.2.2.2.2.1)]) else bif decide (((List.length (α:=I) [])+List.length e.2.1+1)*16≤lim) then bif decide (0≤a.2.2.1) then Za ([]++e.2.1)[Int.toNat a.2.2.1]? (none) fun d13=>Za ([]++e.2.1)[Int.toNat a.2.2.1]? (none) fun d14=>bif !a.1==8 then Za (Qe (u,t,(e.1,([]++e.2.1).set (Int.toNat a.2.2.1) d12,e.2.2),l,true,a.2.2.2.2.1,())) (none) fun d15=>bif decide (((List.length (α:=I) [])+(([]++e.2.1).set (Int.toNat a.2.2.1) d12).length+1)*16≤lim) then bif decide (0≤a.2.1) then Za ([]++([]++e.2.1).set (Int.toNat a.2.2.1) d12)[Int.toNat a.2.1]? (none) fun d16=>Za ([]++([]++e.2.1).set (Int.toNat a.2.2.1) d12)[Int.toNat a.2.1]? (none) fun d17=>some ((e.1,([]++([]++e.2.1).set (Int.toNat a.2.2.1) d12).set (Int.toNat a.2.1) d15,e.2.2.1,e.2.2.2.1,e.2.2.2.2.1,e.2.2.2.2.2),(false,[],[],[],0,0),[9],[(t,true,a.2.2.2.2.1,e.2.2.2.2.1,d11.1,d11.2)],[(t,n,true,a.2.2.2.2.1,a.1==8,e.2.2.2.2.1)]) else none else none else bif decide (((List.length (α:=I) [])+List.length e.2.2.2.1+1)*16≤lim) then bif decide (0≤a.2.2.2.2.1) then Za ([]++e.2.2.2.1)[Int.toNat a.2.2.2.2.1]? (none) fun d15=>Za ([]++e.2.2.2.1)[Int.toNat a.2.2.2.2.1]? (none) fun d16=>bif decide (0≤a.2.2.2.1) then Za (([]++e.2.1).set (Int.toNat a.2.2.1) d12)[Int.toNat a.2.2.2.1]? (none) fun d17=>Za (([]++e.2.1).set (Int.toNat a.2.2.1) d12)[Int.toNat a.2.2.2.1]? (none) fun d18=>Za (ZM ([d16,d18],())) (none) fun d19=>
 bif decide (0≤a.2.2.2.2.1) then Za ([]++e.2.2.2.1)[Int.toNat a.2.2.2.2.1]? (none) fun d20=>Za ([]++e.2.2.2.1)[Int.toNat a.2.2.2.2.1]? (none) fun d21=>some ((e.1,([]++e.2.1).set (Int.toNat a.2.2.1) d12,e.2.2.1,([]++e.2.2.2.1).set (Int.toNat a.2.2.2.2.1) d19,e.2.2.2.2.1,e.2.2.2.2.2),(false,[],[],[],0,0),[9],[(t,true,a.2.2.2.2.1,e.2.2.2.2.1,d11.1,d11.2)],[(t,n,true,a.2.2.2.2.1,a.1==8,e.2.2.2.2.1)]) else none else none else none else none else none else none else none else Za (ZH (d9,(0,IntKind.i64.wrap (d8 - 1)),())) (none) fun d11=>bif decide (d11.1>d11.2) then some ((false,[],[],[],0,0),(false,[],[],[],0,0),[9],[],[(t,n,true,a.2.2.2.2.1,a.1==8,e.2.2.2.2.1)]) else bif decide (((List.length (α:=I) [])+List.length e.2.1+1)*16≤lim) then bif decide (0≤a.2.2.1) then Za ([]++e.2.1)[Int.toNat a.2.2.1]? (none) fun d12=>Za ([]++e.2.1)[Int.toNat a.2.2.1]? (none) fun d13=>bif !a.1==8 then Za (Qe (u,t,(e.1,([]++e.2.1).set (Int.toNat a.2.2.1) d11,e.2.2),l,true,a.2.2.2.2.1,())) (none) fun d14=>bif decide (((List.length (α:=I) [])+(([]++e.2.1).set (Int.toNat a.2.2.1) d11).length+1)*16≤lim) then bif decide (0≤a.2.1) then Za ([]++([]++e.2.1).set (Int.toNat a.2.2.1) d11)[Int.toNat a.2.1]? (none) fun d15=>Za ([]++([]++e.2.1).set (Int.toNat a.2.2.1) d11)[Int.toNat a.2.1]? (none) fun d16=>some ((e.1,([]++([]++e.2.1).set (Int.toNat a.2.2.1) d11).set (Int.toNat a.2.1) d14,e.2.2.1,e.2.2.2.1,e.2.2.2.2.1,e.2.2.2.2.2),(false,[],[],[],0,0),[9],[],[(t,n,true,a.2.2.2.2.1,a.1==8,e.2.2.2.2.1)]) else none else none else bif decide (((List.length (α:=I) [])+List.length e.2.2.2.1+1)*16≤lim) then
 bif decide (0≤a.2.2.2.2.1) then Za ([]++e.2.2.2.1)[Int.toNat a.2.2.2.2.1]? (none) fun d14=>Za ([]++e.2.2.2.1)[Int.toNat a.2.2.2.2.1]? (none) fun d15=>bif decide (0≤a.2.2.2.1) then Za (([]++e.2.1).set (Int.toNat a.2.2.1) d11)[Int.toNat a.2.2.2.1]? (none) fun d16=>Za (([]++e.2.1).set (Int.toNat a.2.2.1) d11)[Int.toNat a.2.2.2.1]? (none) fun d17=>Za (ZM ([d15,d17],())) (none) fun d18=>bif decide (0≤a.2.2.2.2.1) then Za ([]++e.2.2.2.1)[Int.toNat a.2.2.2.2.1]? (none) fun d19=>Za ([]++e.2.2.2.1)[Int.toNat a.2.2.2.2.1]? (none) fun d20=>some ((e.1,([]++e.2.1).set (Int.toNat a.2.2.1) d11,e.2.2.1,([]++e.2.2.2.1).set (Int.toNat a.2.2.2.2.1) d18,e.2.2.2.2.1,e.2.2.2.2.2),(false,[],[],[],0,0),[9],[],[(t,n,true,a.2.2.2.2.1,a.1==8,e.2.2.2.2.1)]) else none else none else none else none else none else none else bif a.1==8 then bif decide (0≤a.2.2.2.1) then Za e.2.1[Int.toNat a.2.2.2.1]? (none) fun d11=>Za (ZH (d9,(0,IntKind.i64.wrap (d8 - 1)),())) (none) fun d12=>bif decide (d12.1>d12.2) then some ((false,[],[],[],0,0),(false,[],[],[],0,0),[],[(t,true,a.2.2.2.2.1,e.2.2.2.2.1,d11.1,d11.2)],[(t,n,true,a.2.2.2.2.1,a.1==8,e.2.2.2.2.1)]) else bif decide (((List.length (α:=I) [])+List.length e.2.1+1)*16≤lim) then bif decide (0≤a.2.2.1) then Za ([]++e.2.1)[Int.toNat a.2.2.1]? (none) fun d13=>Za ([]++e.2.1)[Int.toNat a.2.2.1]? (none) fun d14=>bif !a.1==8 then Za (Qe (u,t,(e.1,([]++e.2.1).set (Int.toNat a.2.2.1) d12,e.2.2),l,true,a.2.2.2.2.1,())) (none) fun d15=>bif decide (((List.length (α:=I) [])+(([]++e.2.1).set (Int.toNat a.2.2.1) d12).length+1)*16≤lim) then bif decide (0≤a.2.1) then
 Za ([]++([]++e.2.1).set (Int.toNat a.2.2.1) d12)[Int.toNat a.2.1]? (none) fun d16=>Za ([]++([]++e.2.1).set (Int.toNat a.2.2.1) d12)[Int.toNat a.2.1]? (none) fun d17=>some ((e.1,([]++([]++e.2.1).set (Int.toNat a.2.2.1) d12).set (Int.toNat a.2.1) d15,e.2.2.1,e.2.2.2.1,e.2.2.2.2.1,e.2.2.2.2.2),(false,[],[],[],0,0),[],[(t,true,a.2.2.2.2.1,e.2.2.2.2.1,d11.1,d11.2)],[(t,n,true,a.2.2.2.2.1,a.1==8,e.2.2.2.2.1)]) else none else none else bif decide (((List.length (α:=I) [])+List.length e.2.2.2.1+1)*16≤lim) then bif decide (0≤a.2.2.2.2.1) then Za ([]++e.2.2.2.1)[Int.toNat a.2.2.2.2.1]? (none) fun d15=>Za ([]++e.2.2.2.1)[Int.toNat a.2.2.2.2.1]? (none) fun d16=>bif decide (0≤a.2.2.2.1) then Za (([]++e.2.1).set (Int.toNat a.2.2.1) d12)[Int.toNat a.2.2.2.1]? (none) fun d17=>Za (([]++e.2.1).set (Int.toNat a.2.2.1) d12)[Int.toNat a.2.2.2.1]? (none) fun d18=>Za (ZM ([d16,d18],())) (none) fun d19=>bif decide (0≤a.2.2.2.2.1) then Za ([]++e.2.2.2.1)[Int.toNat a.2.2.2.2.1]? (none) fun d20=>Za ([]++e.2.2.2.1)[Int.toNat a.2.2.2.2.1]? (none) fun d21=>some ((e.1,([]++e.2.1).set (Int.toNat a.2.2.1) d12,e.2.2.1,([]++e.2.2.2.1).set (Int.toNat a.2.2.2.2.1) d19,e.2.2.2.2.1,e.2.2.2.2.2),(false,[],[],[],0,0),[],[(t,true,a.2.2.2.2.1,e.2.2.2.2.1,d11.1,d11.2)],[(t,n,true,a.2.2.2.2.1,a.1==8,e.2.2.2.2.1)]) else none else none else none else none else none else none else none else Za (ZH (d9,(0,IntKind.i64.wrap (d8 - 1)),())) (none) fun d11=>bif decide (d11.1>d11.2) then some ((false,[],[],[],0,0),(false,[],[],[],0,0),[],[],[(t,n,true,a.2.2.2.2.1,a.1==8,e.2.2.2.2.1)])
 else bif decide (((List.length (α:=I) [])+List.length e.2.1+1)*16≤lim) then bif decide (0≤a.2.2.1) then Za ([]++e.2.1)[Int.toNat a.2.2.1]? (none) fun d12=>Za ([]++e.2.1)[Int.toNat a.2.2.1]? (none) fun d13=>bif !a.1==8 then Za (Qe (u,t,(e.1,([]++e.2.1).set (Int.toNat a.2.2.1) d11,e.2.2),l,true,a.2.2.2.2.1,())) (none) fun d14=>bif decide (((List.length (α:=I) [])+(([]++e.2.1).set (Int.toNat a.2.2.1) d11).length+1)*16≤lim) then bif decide (0≤a.2.1) then Za ([]++([]++e.2.1).set (Int.toNat a.2.2.1) d11)[Int.toNat a.2.1]? (none) fun d15=>Za ([]++([]++e.2.1).set (Int.toNat a.2.2.1) d11)[Int.toNat a.2.1]? (none) fun d16=>some ((e.1,([]++([]++e.2.1).set (Int.toNat a.2.2.1) d11).set (Int.toNat a.2.1) d14,e.2.2.1,e.2.2.2.1,e.2.2.2.2.1,e.2.2.2.2.2),(false,[],[],[],0,0),[],[],[(t,n,true,a.2.2.2.2.1,a.1==8,e.2.2.2.2.1)]) else none else none else bif decide (((List.length (α:=I) [])+List.length e.2.2.2.1+1)*16≤lim) then bif decide (0≤a.2.2.2.2.1) then Za ([]++e.2.2.2.1)[Int.toNat a.2.2.2.2.1]? (none) fun d14=>Za ([]++e.2.2.2.1)[Int.toNat a.2.2.2.2.1]? (none) fun d15=>bif decide (0≤a.2.2.2.1) then Za (([]++e.2.1).set (Int.toNat a.2.2.1) d11)[Int.toNat a.2.2.2.1]? (none) fun d16=>Za (([]++e.2.1).set (Int.toNat a.2.2.1) d11)[Int.toNat a.2.2.2.1]? (none) fun d17=>Za (ZM ([d15,d17],())) (none) fun d18=>bif decide (0≤a.2.2.2.2.1) then Za ([]++e.2.2.2.1)[Int.toNat a.2.2.2.2.1]? (none) fun d19=>Za ([]++e.2.2.2.1)[Int.toNat a.2.2.2.2.1]? (none) fun d20=>
 some ((e.1,([]++e.2.1).set (Int.toNat a.2.2.1) d11,e.2.2.1,([]++e.2.2.2.1).set (Int.toNat a.2.2.2.2.1) d18,e.2.2.2.2.1,e.2.2.2.2.2),(false,[],[],[],0,0),[],[],[(t,n,true,a.2.2.2.2.1,a.1==8,e.2.2.2.2.1)]) else none else none else none else none else none else none else none else none else bif a.1==8 then bif decide (0≤a.2.2.2.2.1) then Za u.2.1[Int.toNat a.2.2.2.2.1]? (none) fun d8=>bif decide (0≤a.2.2.1) then Za e.2.1[Int.toNat a.2.2.1]? (none) fun d9=>Za (QB (d9,(0,IntKind.i64.wrap (d8 - 1)),())) (none) fun d10=>bif !d10 then bif a.1==8 then bif decide (0≤a.2.2.2.1) then Za e.2.1[Int.toNat a.2.2.2.1]? (none) fun d11=>Za (ZH (d9,(0,IntKind.i64.wrap (d8 - 1)),())) (none) fun d12=>bif decide (d12.1>d12.2) then some ((false,[],[],[],0,0),(false,[],[],[],0,0),[9],[(t,true,a.2.2.2.2.1,e.2.2.2.2.1,d11.1,d11.2)],[(t,n,true,a.2.2.2.2.1,a.1==8,e.2.2.2.2.1)]) else bif decide (((List.length (α:=I) [])+List.length e.2.1+1)*16≤lim) then bif decide (0≤a.2.2.1) then Za ([]++e.2.1)[Int.toNat a.2.2.1]? (none) fun d13=>Za ([]++e.2.1)[Int.toNat a.2.2.1]? (none) fun d14=>bif !a.1==8 then Za (Qe (u,t,(e.1,([]++e.2.1).set (Int.toNat a.2.2.1) d12,e.2.2),l,true,a.2.2.2.2.1,())) (none) fun d15=>bif decide (((List.length (α:=I) [])+(([]++e.2.1).set (Int.toNat a.2.2.1) d12).length+1)*16≤lim) then bif decide (0≤a.2.1) then Za ([]++([]++e.2.1).set (Int.toNat a.2.2.1) d12)[Int.toNat a.2.1]? (none) fun d16=>Za ([]++([]++e.2.1).set (Int.toNat a.2.2.1) d12)[Int.toNat a.2.1]? (none) fun d17=>
 some ((e.1,([]++([]++e.2.1).set (Int.toNat a.2.2.1) d12).set (Int.toNat a.2.1) d15,e.2.2.1,e.2.2.2.1,e.2.2.2.2.1,e.2.2.2.2.2),(false,[],[],[],0,0),[9],[(t,true,a.2.2.2.2.1,e.2.2.2.2.1,d11.1,d11.2)],[(t,n,true,a.2.2.2.2.1,a.1==8,e.2.2.2.2.1)]) else none else none else bif decide (((List.length (α:=I) [])+List.length e.2.2.2.1+1)*16≤lim) then bif decide (0≤a.2.2.2.2.1) then Za ([]++e.2.2.2.1)[Int.toNat a.2.2.2.2.1]? (none) fun d15=>Za ([]++e.2.2.2.1)[Int.toNat a.2.2.2.2.1]? (none) fun d16=>bif decide (0≤a.2.2.2.1) then Za (([]++e.2.1).set (Int.toNat a.2.2.1) d12)[Int.toNat a.2.2.2.1]? (none) fun d17=>Za (([]++e.2.1).set (Int.toNat a.2.2.1) d12)[Int.toNat a.2.2.2.1]? (none) fun d18=>Za (ZM ([d16,d18],())) (none) fun d19=>bif decide (0≤a.2.2.2.2.1) then Za ([]++e.2.2.2.1)[Int.toNat a.2.2.2.2.1]? (none) fun d20=>Za ([]++e.2.2.2.1)[Int.toNat a.2.2.2.2.1]? (none) fun d21=>some ((e.1,([]++e.2.1).set (Int.toNat a.2.2.1) d12,e.2.2.1,([]++e.2.2.2.1).set (Int.toNat a.2.2.2.2.1) d19,e.2.2.2.2.1,e.2.2.2.2.2),(false,[],[],[],0,0),[9],[(t,true,a.2.2.2.2.1,e.2.2.2.2.1,d11.1,d11.2)],[(t,n,true,a.2.2.2.2.1,a.1==8,e.2.2.2.2.1)]) else none else none else none else none else none else none else none else Za (ZH (d9,(0,IntKind.i64.wrap (d8 - 1)),())) (none) fun d11=>bif decide (d11.1>d11.2) then some ((false,[],[],[],0,0),(false,[],[],[],0,0),[9],[],[(t,n,true,a.2.2.2.2.1,a.1==8,e.2.2.2.2.1)]) else bif decide (((List.length (α:=I) [])+List.length e.2.1+1)*16≤lim) then bif decide (0≤a.2.2.1) then Za ([]++e.2.1)[Int.toNat a.2.2.1]? (none) fun d12=>Za ([]++e.2.1)[Int.toNat a.2.2.1]? (none) fun d13=>bif !a.1==8 then
 Za (Qe (u,t,(e.1,([]++e.2.1).set (Int.toNat a.2.2.1) d11,e.2.2),l,true,a.2.2.2.2.1,())) (none) fun d14=>bif decide (((List.length (α:=I) [])+(([]++e.2.1).set (Int.toNat a.2.2.1) d11).length+1)*16≤lim) then bif decide (0≤a.2.1) then Za ([]++([]++e.2.1).set (Int.toNat a.2.2.1) d11)[Int.toNat a.2.1]? (none) fun d15=>Za ([]++([]++e.2.1).set (Int.toNat a.2.2.1) d11)[Int.toNat a.2.1]? (none) fun d16=>some ((e.1,([]++([]++e.2.1).set (Int.toNat a.2.2.1) d11).set (Int.toNat a.2.1) d14,e.2.2.1,e.2.2.2.1,e.2.2.2.2.1,e.2.2.2.2.2),(false,[],[],[],0,0),[9],[],[(t,n,true,a.2.2.2.2.1,a.1==8,e.2.2.2.2.1)]) else none else none else bif decide (((List.length (α:=I) [])+List.length e.2.2.2.1+1)*16≤lim) then bif decide (0≤a.2.2.2.2.1) then Za ([]++e.2.2.2.1)[Int.toNat a.2.2.2.2.1]? (none) fun d14=>Za ([]++e.2.2.2.1)[Int.toNat a.2.2.2.2.1]? (none) fun d15=>bif decide (0≤a.2.2.2.1) then Za (([]++e.2.1).set (Int.toNat a.2.2.1) d11)[Int.toNat a.2.2.2.1]? (none) fun d16=>Za (([]++e.2.1).set (Int.toNat a.2.2.1) d11)[Int.toNat a.2.2.2.1]? (none) fun d17=>Za (ZM ([d15,d17],())) (none) fun d18=>bif decide (0≤a.2.2.2.2.1) then Za ([]++e.2.2.2.1)[Int.toNat a.2.2.2.2.1]? (none) fun d19=>Za ([]++e.2.2.2.1)[Int.toNat a.2.2.2.2.1]? (none) fun d20=>some ((e.1,([]++e.2.1).set (Int.toNat a.2.2.1) d11,e.2.2.1,([]++e.2.2.2.1).set (Int.toNat a.2.2.2.2.1) d18,e.2.2.2.2.1,e.2.2.2.2.2),(false,[],[],[],0,0),[9],[],[(t,n,true,a.2.2.2.2.1,a.1==8,e.2.2.2.2.1)]) else none else none else none else none else none else none else bif a.1==8 then bif decide (0≤a.2.2.2.1) then Za e.2.1[Int.toNat a.2.2.2.1]? (none) fun d11=>
 Za (ZH (d9,(0,IntKind.i64.wrap (d8 - 1)),())) (none) fun d12=>bif decide (d12.1>d12.2) then some ((false,[],[],[],0,0),(false,[],[],[],0,0),[],[(t,true,a.2.2.2.2.1,e.2.2.2.2.1,d11.1,d11.2)],[(t,n,true,a.2.2.2.2.1,a.1==8,e.2.2.2.2.1)]) else bif decide (((List.length (α:=I) [])+List.length e.2.1+1)*16≤lim) then bif decide (0≤a.2.2.1) then Za ([]++e.2.1)[Int.toNat a.2.2.1]? (none) fun d13=>Za ([]++e.2.1)[Int.toNat a.2.2.1]? (none) fun d14=>bif !a.1==8 then Za (Qe (u,t,(e.1,([]++e.2.1).set (Int.toNat a.2.2.1) d12,e.2.2),l,true,a.2.2.2.2.1,())) (none) fun d15=>bif decide (((List.length (α:=I) [])+(([]++e.2.1).set (Int.toNat a.2.2.1) d12).length+1)*16≤lim) then bif decide (0≤a.2.1) then Za ([]++([]++e.2.1).set (Int.toNat a.2.2.1) d12)[Int.toNat a.2.1]? (none) fun d16=>Za ([]++([]++e.2.1).set (Int.toNat a.2.2.1) d12)[Int.toNat a.2.1]? (none) fun d17=>some ((e.1,([]++([]++e.2.1).set (Int.toNat a.2.2.1) d12).set (Int.toNat a.2.1) d15,e.2.2.1,e.2.2.2.1,e.2.2.2.2.1,e.2.2.2.2.2),(false,[],[],[],0,0),[],[(t,true,a.2.2.2.2.1,e.2.2.2.2.1,d11.1,d11.2)],[(t,n,true,a.2.2.2.2.1,a.1==8,e.2.2.2.2.1)]) else none else none else bif decide (((List.length (α:=I) [])+List.length e.2.2.2.1+1)*16≤lim) then bif decide (0≤a.2.2.2.2.1) then Za ([]++e.2.2.2.1)[Int.toNat a.2.2.2.2.1]? (none) fun d15=>Za ([]++e.2.2.2.1)[Int.toNat a.2.2.2.2.1]? (none) fun d16=>bif decide (0≤a.2.2.2.1) then Za (([]++e.2.1).set (Int.toNat a.2.2.1) d12)[Int.toNat a.2.2.2.1]? (none) fun d17=>Za (([]++e.2.1).set (Int.toNat a.2.2.1) d12)[Int.toNat a.2.2.2.1]? (none) fun d18=>Za (ZM ([d16,d18],())) (none) fun d19=>
 bif decide (0≤a.2.2.2.2.1) then Za ([]++e.2.2.2.1)[Int.toNat a.2.2.2.2.1]? (none) fun d20=>Za ([]++e.2.2.2.1)[Int.toNat a.2.2.2.2.1]? (none) fun d21=>some ((e.1,([]++e.2.1).set (Int.toNat a.2.2.1) d12,e.2.2.1,([]++e.2.2.2.1).set (Int.toNat a.2.2.2.2.1) d19,e.2.2.2.2.1,e.2.2.2.2.2),(false,[],[],[],0,0),[],[(t,true,a.2.2.2.2.1,e.2.2.2.2.1,d11.1,d11.2)],[(t,n,true,a.2.2.2.2.1,a.1==8,e.2.2.2.2.1)]) else none else none else none else none else none else none else none else Za (ZH (d9,(0,IntKind.i64.wrap (d8 - 1)),())) (none) fun d11=>bif decide (d11.1>d11.2) then some ((false,[],[],[],0,0),(false,[],[],[],0,0),[],[],[(t,n,true,a.2.2.2.2.1,a.1==8,e.2.2.2.2.1)]) else bif decide (((List.length (α:=I) [])+List.length e.2.1+1)*16≤lim) then bif decide (0≤a.2.2.1) then Za ([]++e.2.1)[Int.toNat a.2.2.1]? (none) fun d12=>Za ([]++e.2.1)[Int.toNat a.2.2.1]? (none) fun d13=>bif !a.1==8 then Za (Qe (u,t,(e.1,([]++e.2.1).set (Int.toNat a.2.2.1) d11,e.2.2),l,true,a.2.2.2.2.1,())) (none) fun d14=>bif decide (((List.length (α:=I) [])+(([]++e.2.1).set (Int.toNat a.2.2.1) d11).length+1)*16≤lim) then bif decide (0≤a.2.1) then Za ([]++([]++e.2.1).set (Int.toNat a.2.2.1) d11)[Int.toNat a.2.1]? (none) fun d15=>Za ([]++([]++e.2.1).set (Int.toNat a.2.2.1) d11)[Int.toNat a.2.1]? (none) fun d16=>some ((e.1,([]++([]++e.2.1).set (Int.toNat a.2.2.1) d11).set (Int.toNat a.2.1) d14,e.2.2.1,e.2.2.2.1,e.2.2.2.2.1,e.2.2.2.2.2),(false,[],[],[],0,0),[],[],[(t,n,true,a.2.2.2.2.1,a.1==8,e.2.2.2.2.1)]) else none else none else bif decide (((List.length (α:=I) [])+List.length e.2.2.2.1+1)*16≤lim) then
 bif decide (0≤a.2.2.2.2.1) then Za ([]++e.2.2.2.1)[Int.toNat a.2.2.2.2.1]? (none) fun d14=>Za ([]++e.2.2.2.1)[Int.toNat a.2.2.2.2.1]? (none) fun d15=>bif decide (0≤a.2.2.2.1) then Za (([]++e.2.1).set (Int.toNat a.2.2.1) d11)[Int.toNat a.2.2.2.1]? (none) fun d16=>Za (([]++e.2.1).set (Int.toNat a.2.2.1) d11)[Int.toNat a.2.2.2.1]? (none) fun d17=>Za (ZM ([d15,d17],())) (none) fun d18=>bif decide (0≤a.2.2.2.2.1) then Za ([]++e.2.2.2.1)[Int.toNat a.2.2.2.2.1]? (none) fun d19=>Za ([]++e.2.2.2.1)[Int.toNat a.2.2.2.2.1]? (none) fun d20=>some ((e.1,([]++e.2.1).set (Int.toNat a.2.2.1) d11,e.2.2.1,([]++e.2.2.2.1).set (Int.toNat a.2.2.2.2.1) d18,e.2.2.2.2.1,e.2.2.2.2.2),(false,[],[],[],0,0),[],[],[(t,n,true,a.2.2.2.2.1,a.1==8,e.2.2.2.2.1)]) else none else none else none else none else none else none else none else none else bif a.1==9 then Za (ZZ (e.2.2.2.2.2,a.2.2.2.2.1,())) (none) fun d8=>bif d8 then Za (ZZ (e.2.2.2.2.1,a.2.2.2.2.1,())) (none) fun d9=>bif d9 then some ((false,[],[],[],0,0),(false,[],[],[],0,0),[11],[],[]) else Za (Z9 ((a.1,a.2.1,a.2.2.1,a.2.2.2.1,a.2.2.2.2.1,a.2.2.2.2.2.1,a.2.2.2.2.2.2.1,a.2.2.2.2.2.2.2.1,a.2.2.2.2.2.2.2.2,u.1,u.2.1,u.2.2.1,u.2.2.2,t,n,e.1,e.2.1,e.2.2.1,e.2.2.2.1,e.2.2.2.2.1,e.2.2.2.2.2,l,false,[],[],[],0,0,false,[],[],[],0,0,[11],[],[],()),e.2.2.1,false,())) (none) fun d10=>
 Za (Z9 ((a.1,a.2.1,a.2.2.1,a.2.2.2.1,a.2.2.2.2.1,a.2.2.2.2.2.1,a.2.2.2.2.2.2.1,a.2.2.2.2.2.2.2.1,a.2.2.2.2.2.2.2.2,u.1,u.2.1,u.2.2.1,u.2.2.2,t,n,e.1,e.2.1,e.2.2.1,e.2.2.2.1,e.2.2.2.2.1,e.2.2.2.2.2,l,false,[],[],[],0,0,false,[],[],[],0,0,[11],[],[],()),e.2.2.2.1,true,())) (none) fun d11=>Za (Yz (e.2.2.2.2.1,[a.2.2.2.2.1],())) (none) fun d12=>Za (Yz (e.2.2.2.2.2,[a.2.2.2.2.1],())) (none) fun d13=>some ((e.1,e.2.1,d10,d11,d12,d13),(false,[],[],[],0,0),[11],[],[]) else Za (ZZ (e.2.2.2.2.1,a.2.2.2.2.1,())) (none) fun d9=>bif d9 then some ((false,[],[],[],0,0),(false,[],[],[],0,0),[],[],[]) else Za (Z9 ((a.1,a.2.1,a.2.2.1,a.2.2.2.1,a.2.2.2.2.1,a.2.2.2.2.2.1,a.2.2.2.2.2.2.1,a.2.2.2.2.2.2.2.1,a.2.2.2.2.2.2.2.2,u.1,u.2.1,u.2.2.1,u.2.2.2,t,n,e.1,e.2.1,e.2.2.1,e.2.2.2.1,e.2.2.2.2.1,e.2.2.2.2.2,l,false,[],[],[],0,0,false,[],[],[],0,0,[],[],[],()),e.2.2.1,false,())) (none) fun d10=>Za (Z9 ((a.1,a.2.1,a.2.2.1,a.2.2.2.1,a.2.2.2.2.1,a.2.2.2.2.2.1,a.2.2.2.2.2.2.1,a.2.2.2.2.2.2.2.1,a.2.2.2.2.2.2.2.2,u.1,u.2.1,u.2.2.1,u.2.2.2,t,n,e.1,e.2.1,e.2.2.1,e.2.2.2.1,e.2.2.2.2.1,e.2.2.2.2.2,l,false,[],[],[],0,0,false,[],[],[],0,0,[],[],[],()),e.2.2.2.1,true,())) (none) fun d11=>Za (Yz (e.2.2.2.2.1,[a.2.2.2.2.1],())) (none) fun d12=>Za (Yz (e.2.2.2.2.2,[a.2.2.2.2.1],())) (none) fun d13=>some ((e.1,e.2.1,d10,d11,d12,d13),(false,[],[],[],0,0),[],[],[]) else bif a.1==10 then Za (ZZ (e.2.2.2.2.1,a.2.2.2.2.1,())) (none) fun d8=>bif !d8 then Za (ZZ (e.2.2.2.2.2,a.2.2.2.2.1,())) (none) fun d9=>
 bif !d9 then some ((false,[],[],[],0,0),(false,[],[],[],0,0),[12],[],[]) else Za (QN (e.2.2.2.2.1,[a.2.2.2.2.1],())) (none) fun d10=>Za (QN (e.2.2.2.2.2,[a.2.2.2.2.1],())) (none) fun d11=>some ((e.1,e.2.1,e.2.2.1,e.2.2.2.1,d10,d11),(false,[],[],[],0,0),[12],[],[]) else Za (ZZ (e.2.2.2.2.2,a.2.2.2.2.1,())) (none) fun d9=>bif !d9 then some ((false,[],[],[],0,0),(false,[],[],[],0,0),[],[],[]) else Za (QN (e.2.2.2.2.1,[a.2.2.2.2.1],())) (none) fun d10=>Za (QN (e.2.2.2.2.2,[a.2.2.2.2.1],())) (none) fun d11=>some ((e.1,e.2.1,e.2.2.1,e.2.2.2.1,d10,d11),(false,[],[],[],0,0),[],[],[]) else bif a.1==11 then bif decide (0≤a.2.2.1) then Za e.2.1[Int.toNat a.2.2.1]? (none) fun d8=>bif decide (0≤a.2.2.2.1) then Za e.2.1[Int.toNat a.2.2.2.1]? (none) fun d9=>Za (ZX (a.2.2.2.2.2.2.1,d8,d9,())) (none) fun d10=>bif a.2.2.1==a.2.2.2.1 then Za (ZH (d10.1,d10.2.1,())) (none) fun d11=>bif decide (d11.1>d11.2) then Za (Q7 (a.2.2.2.2.2.2.1,())) (none) fun d12=>bif decide (0≤a.2.2.1) then Za e.2.1[Int.toNat a.2.2.1]? (none) fun d13=>bif decide (0≤a.2.2.2.1) then Za e.2.1[Int.toNat a.2.2.2.1]? (none) fun d14=>Za (ZX (d12,d13,d14,())) (none) fun d15=>bif a.2.2.1==a.2.2.2.1 then Za (ZH (d15.1,d15.2.1,())) (none) fun d16=>bif decide (d16.1>d16.2) then some ((false,[],[],[],0,0),(false,[],[],[],0,0),[],[],[]) else bif decide (d16.1>d16.2) then some ((false,[],[],[],0,0),(false,[],[],[],0,0),[],[],[]) else bif decide (((List.length (α:=I) [])+List.length e.2.1+1)*16≤lim) then bif decide (0≤a.2.2.1) then
 Za ([]++e.2.1)[Int.toNat a.2.2.1]? (none) fun d17=>Za ([]++e.2.1)[Int.toNat a.2.2.1]? (none) fun d18=>bif decide (0≤a.2.2.2.1) then Za (([]++e.2.1).set (Int.toNat a.2.2.1) d16)[Int.toNat a.2.2.2.1]? (none) fun d19=>Za (([]++e.2.1).set (Int.toNat a.2.2.1) d16)[Int.toNat a.2.2.2.1]? (none) fun d20=>some ((false,[],[],[],0,0),(e.1,(([]++e.2.1).set (Int.toNat a.2.2.1) d16).set (Int.toNat a.2.2.2.1) d16,e.2.2.1,e.2.2.2.1,e.2.2.2.2.1,e.2.2.2.2.2),[],[],[]) else none else none else none else bif decide (d15.1.1>d15.1.2) then some ((false,[],[],[],0,0),(false,[],[],[],0,0),[],[],[]) else bif decide (d15.2.1.1>d15.2.1.2) then some ((false,[],[],[],0,0),(false,[],[],[],0,0),[],[],[]) else bif decide (((List.length (α:=I) [])+List.length e.2.1+1)*16≤lim) then bif decide (0≤a.2.2.1) then Za ([]++e.2.1)[Int.toNat a.2.2.1]? (none) fun d16=>Za ([]++e.2.1)[Int.toNat a.2.2.1]? (none) fun d17=>bif decide (0≤a.2.2.2.1) then Za (([]++e.2.1).set (Int.toNat a.2.2.1) d15.1)[Int.toNat a.2.2.2.1]? (none) fun d18=>Za (([]++e.2.1).set (Int.toNat a.2.2.1) d15.1)[Int.toNat a.2.2.2.1]? (none) fun d19=>some ((false,[],[],[],0,0),(e.1,(([]++e.2.1).set (Int.toNat a.2.2.1) d15.1).set (Int.toNat a.2.2.2.1) d15.2.1,e.2.2.1,e.2.2.2.1,e.2.2.2.2.1,e.2.2.2.2.2),[],[],[]) else none else none else none else none else none else bif decide (d11.1>d11.2) then Za (Q7 (a.2.2.2.2.2.2.1,())) (none) fun d12=>bif decide (0≤a.2.2.1) then Za e.2.1[Int.toNat a.2.2.1]? (none) fun d13=>bif decide (0≤a.2.2.2.1) then Za e.2.1[Int.toNat a.2.2.2.1]? (none) fun d14=>Za (ZX (d12,d13,d14,())) (none) fun d15=>bif a.2.2.1==a.2.2.2.1 then
 Za (ZH (d15.1,d15.2.1,())) (none) fun d16=>bif decide (d16.1>d16.2) then some ((false,[],[],[],0,0),(false,[],[],[],0,0),[],[],[]) else bif decide (d16.1>d16.2) then some ((false,[],[],[],0,0),(false,[],[],[],0,0),[],[],[]) else bif decide (((List.length (α:=I) [])+List.length e.2.1+1)*16≤lim) then bif decide (0≤a.2.2.1) then Za ([]++e.2.1)[Int.toNat a.2.2.1]? (none) fun d17=>Za ([]++e.2.1)[Int.toNat a.2.2.1]? (none) fun d18=>bif decide (0≤a.2.2.2.1) then Za (([]++e.2.1).set (Int.toNat a.2.2.1) d16)[Int.toNat a.2.2.2.1]? (none) fun d19=>Za (([]++e.2.1).set (Int.toNat a.2.2.1) d16)[Int.toNat a.2.2.2.1]? (none) fun d20=>some ((false,[],[],[],0,0),(e.1,(([]++e.2.1).set (Int.toNat a.2.2.1) d16).set (Int.toNat a.2.2.2.1) d16,e.2.2.1,e.2.2.2.1,e.2.2.2.2.1,e.2.2.2.2.2),[],[],[]) else none else none else none else bif decide (d15.1.1>d15.1.2) then some ((false,[],[],[],0,0),(false,[],[],[],0,0),[],[],[]) else bif decide (d15.2.1.1>d15.2.1.2) then some ((false,[],[],[],0,0),(false,[],[],[],0,0),[],[],[]) else bif decide (((List.length (α:=I) [])+List.length e.2.1+1)*16≤lim) then bif decide (0≤a.2.2.1) then Za ([]++e.2.1)[Int.toNat a.2.2.1]? (none) fun d16=>Za ([]++e.2.1)[Int.toNat a.2.2.1]? (none) fun d17=>bif decide (0≤a.2.2.2.1) then Za (([]++e.2.1).set (Int.toNat a.2.2.1) d15.1)[Int.toNat a.2.2.2.1]? (none) fun d18=>Za (([]++e.2.1).set (Int.toNat a.2.2.1) d15.1)[Int.toNat a.2.2.2.1]? (none) fun d19=>some ((false,[],[],[],0,0),(e.1,(([]++e.2.1).set (Int.toNat a.2.2.1) d15.1).set (Int.toNat a.2.2.2.1) d15.2.1,e.2.2.1,e.2.2.2.1,e.2.2.2.2.1,e.2.2.2.2.2),[],[],[]) else none else none else none else none
 else none else bif decide (((List.length (α:=I) [])+List.length e.2.1+1)*16≤lim) then bif decide (0≤a.2.2.1) then Za ([]++e.2.1)[Int.toNat a.2.2.1]? (none) fun d12=>Za ([]++e.2.1)[Int.toNat a.2.2.1]? (none) fun d13=>bif decide (0≤a.2.2.2.1) then Za (([]++e.2.1).set (Int.toNat a.2.2.1) d11)[Int.toNat a.2.2.2.1]? (none) fun d14=>Za (([]++e.2.1).set (Int.toNat a.2.2.1) d11)[Int.toNat a.2.2.2.1]? (none) fun d15=>Za (Q7 (a.2.2.2.2.2.2.1,())) (none) fun d16=>bif decide (0≤a.2.2.1) then Za e.2.1[Int.toNat a.2.2.1]? (none) fun d17=>bif decide (0≤a.2.2.2.1) then Za e.2.1[Int.toNat a.2.2.2.1]? (none) fun d18=>Za (ZX (d16,d17,d18,())) (none) fun d19=>bif a.2.2.1==a.2.2.2.1 then Za (ZH (d19.1,d19.2.1,())) (none) fun d20=>bif decide (d20.1>d20.2) then some ((e.1,(([]++e.2.1).set (Int.toNat a.2.2.1) d11).set (Int.toNat a.2.2.2.1) d11,e.2.2.1,e.2.2.2.1,e.2.2.2.2.1,e.2.2.2.2.2),(false,[],[],[],0,0),[],[],[]) else bif decide (d20.1>d20.2) then some ((e.1,(([]++e.2.1).set (Int.toNat a.2.2.1) d11).set (Int.toNat a.2.2.2.1) d11,e.2.2.1,e.2.2.2.1,e.2.2.2.2.1,e.2.2.2.2.2),(false,[],[],[],0,0),[],[],[]) else bif decide (((List.length (α:=I) [])+List.length e.2.1+1)*16≤lim) then bif decide (0≤a.2.2.1) then Za ([]++e.2.1)[Int.toNat a.2.2.1]? (none) fun d21=>Za ([]++e.2.1)[Int.toNat a.2.2.1]? (none) fun d22=>bif decide (0≤a.2.2.2.1) then Za (([]++e.2.1).set (Int.toNat a.2.2.1) d20)[Int.toNat a.2.2.2.1]? (none) fun d23=>Za (([]++e.2.1).set (Int.toNat a.2.2.1) d20)[Int.toNat a.2.2.2.1]? (none) fun d24=>
 some ((e.1,(([]++e.2.1).set (Int.toNat a.2.2.1) d11).set (Int.toNat a.2.2.2.1) d11,e.2.2.1,e.2.2.2.1,e.2.2.2.2.1,e.2.2.2.2.2),(e.1,(([]++e.2.1).set (Int.toNat a.2.2.1) d20).set (Int.toNat a.2.2.2.1) d20,e.2.2.1,e.2.2.2.1,e.2.2.2.2.1,e.2.2.2.2.2),[],[],[]) else none else none else none else bif decide (d19.1.1>d19.1.2) then some ((e.1,(([]++e.2.1).set (Int.toNat a.2.2.1) d11).set (Int.toNat a.2.2.2.1) d11,e.2.2.1,e.2.2.2.1,e.2.2.2.2.1,e.2.2.2.2.2),(false,[],[],[],0,0),[],[],[]) else bif decide (d19.2.1.1>d19.2.1.2) then some ((e.1,(([]++e.2.1).set (Int.toNat a.2.2.1) d11).set (Int.toNat a.2.2.2.1) d11,e.2.2.1,e.2.2.2.1,e.2.2.2.2.1,e.2.2.2.2.2),(false,[],[],[],0,0),[],[],[]) else bif decide (((List.length (α:=I) [])+List.length e.2.1+1)*16≤lim) then bif decide (0≤a.2.2.1) then Za ([]++e.2.1)[Int.toNat a.2.2.1]? (none) fun d20=>Za ([]++e.2.1)[Int.toNat a.2.2.1]? (none) fun d21=>bif decide (0≤a.2.2.2.1) then Za (([]++e.2.1).set (Int.toNat a.2.2.1) d19.1)[Int.toNat a.2.2.2.1]? (none) fun d22=>Za (([]++e.2.1).set (Int.toNat a.2.2.1) d19.1)[Int.toNat a.2.2.2.1]? (none) fun d23=>some ((e.1,(([]++e.2.1).set (Int.toNat a.2.2.1) d11).set (Int.toNat a.2.2.2.1) d11,e.2.2.1,e.2.2.2.1,e.2.2.2.2.1,e.2.2.2.2.2),(e.1,(([]++e.2.1).set (Int.toNat a.2.2.1) d19.1).set (Int.toNat a.2.2.2.1) d19.2.1,e.2.2.1,e.2.2.2.1,e.2.2.2.2.1,e.2.2.2.2.2),[],[],[]) else none else none else none else none else none else none else none else none else bif decide (d10.1.1>d10.1.2) then Za (Q7 (a.2.2.2.2.2.2.1,())) (none) fun d11=>bif decide (0≤a.2.2.1) then Za e.2.1[Int.toNat a.2.2.1]? (none) fun d12=>bif decide (0≤a.2.2.2.1) then Za e.2.1[Int.toNat a.2.2.2.1]? (none) fun d13=>
 Za (ZX (d11,d12,d13,())) (none) fun d14=>bif a.2.2.1==a.2.2.2.1 then Za (ZH (d14.1,d14.2.1,())) (none) fun d15=>bif decide (d15.1>d15.2) then some ((false,[],[],[],0,0),(false,[],[],[],0,0),[],[],[]) else bif decide (d15.1>d15.2) then some ((false,[],[],[],0,0),(false,[],[],[],0,0),[],[],[]) else bif decide (((List.length (α:=I) [])+List.length e.2.1+1)*16≤lim) then bif decide (0≤a.2.2.1) then Za ([]++e.2.1)[Int.toNat a.2.2.1]? (none) fun d16=>Za ([]++e.2.1)[Int.toNat a.2.2.1]? (none) fun d17=>bif decide (0≤a.2.2.2.1) then Za (([]++e.2.1).set (Int.toNat a.2.2.1) d15)[Int.toNat a.2.2.2.1]? (none) fun d18=>Za (([]++e.2.1).set (Int.toNat a.2.2.1) d15)[Int.toNat a.2.2.2.1]? (none) fun d19=>some ((false,[],[],[],0,0),(e.1,(([]++e.2.1).set (Int.toNat a.2.2.1) d15).set (Int.toNat a.2.2.2.1) d15,e.2.2.1,e.2.2.2.1,e.2.2.2.2.1,e.2.2.2.2.2),[],[],[]) else none else none else none else bif decide (d14.1.1>d14.1.2) then some ((false,[],[],[],0,0),(false,[],[],[],0,0),[],[],[]) else bif decide (d14.2.1.1>d14.2.1.2) then some ((false,[],[],[],0,0),(false,[],[],[],0,0),[],[],[]) else bif decide (((List.length (α:=I) [])+List.length e.2.1+1)*16≤lim) then bif decide (0≤a.2.2.1) then Za ([]++e.2.1)[Int.toNat a.2.2.1]? (none) fun d15=>Za ([]++e.2.1)[Int.toNat a.2.2.1]? (none) fun d16=>bif decide (0≤a.2.2.2.1) then Za (([]++e.2.1).set (Int.toNat a.2.2.1) d14.1)[Int.toNat a.2.2.2.1]? (none) fun d17=>Za (([]++e.2.1).set (Int.toNat a.2.2.1) d14.1)[Int.toNat a.2.2.2.1]? (none) fun d18=>
 some ((false,[],[],[],0,0),(e.1,(([]++e.2.1).set (Int.toNat a.2.2.1) d14.1).set (Int.toNat a.2.2.2.1) d14.2.1,e.2.2.1,e.2.2.2.1,e.2.2.2.2.1,e.2.2.2.2.2),[],[],[]) else none else none else none else none else none else bif decide (d10.2.1.1>d10.2.1.2) then Za (Q7 (a.2.2.2.2.2.2.1,())) (none) fun d11=>bif decide (0≤a.2.2.1) then Za e.2.1[Int.toNat a.2.2.1]? (none) fun d12=>bif decide (0≤a.2.2.2.1) then Za e.2.1[Int.toNat a.2.2.2.1]? (none) fun d13=>Za (ZX (d11,d12,d13,())) (none) fun d14=>bif a.2.2.1==a.2.2.2.1 then Za (ZH (d14.1,d14.2.1,())) (none) fun d15=>bif decide (d15.1>d15.2) then some ((false,[],[],[],0,0),(false,[],[],[],0,0),[],[],[]) else bif decide (d15.1>d15.2) then some ((false,[],[],[],0,0),(false,[],[],[],0,0),[],[],[]) else bif decide (((List.length (α:=I) [])+List.length e.2.1+1)*16≤lim) then bif decide (0≤a.2.2.1) then Za ([]++e.2.1)[Int.toNat a.2.2.1]? (none) fun d16=>Za ([]++e.2.1)[Int.toNat a.2.2.1]? (none) fun d17=>bif decide (0≤a.2.2.2.1) then Za (([]++e.2.1).set (Int.toNat a.2.2.1) d15)[Int.toNat a.2.2.2.1]? (none) fun d18=>Za (([]++e.2.1).set (Int.toNat a.2.2.1) d15)[Int.toNat a.2.2.2.1]? (none) fun d19=>some ((false,[],[],[],0,0),(e.1,(([]++e.2.1).set (Int.toNat a.2.2.1) d15).set (Int.toNat a.2.2.2.1) d15,e.2.2.1,e.2.2.2.1,e.2.2.2.2.1,e.2.2.2.2.2),[],[],[]) else none else none else none else bif decide (d14.1.1>d14.1.2) then some ((false,[],[],[],0,0),(false,[],[],[],0,0),[],[],[]) else bif decide (d14.2.1.1>d14.2.1.2) then some ((false,[],[],[],0,0),(false,[],[],[],0,0),[],[],[]) else bif decide (((List.length (α:=I) [])+List.length e.2.1+1)*16≤lim) then
 bif decide (0≤a.2.2.1) then Za ([]++e.2.1)[Int.toNat a.2.2.1]? (none) fun d15=>Za ([]++e.2.1)[Int.toNat a.2.2.1]? (none) fun d16=>bif decide (0≤a.2.2.2.1) then Za (([]++e.2.1).set (Int.toNat a.2.2.1) d14.1)[Int.toNat a.2.2.2.1]? (none) fun d17=>Za (([]++e.2.1).set (Int.toNat a.2.2.1) d14.1)[Int.toNat a.2.2.2.1]? (none) fun d18=>some ((false,[],[],[],0,0),(e.1,(([]++e.2.1).set (Int.toNat a.2.2.1) d14.1).set (Int.toNat a.2.2.2.1) d14.2.1,e.2.2.1,e.2.2.2.1,e.2.2.2.2.1,e.2.2.2.2.2),[],[],[]) else none else none else none else none else none else bif decide (((List.length (α:=I) [])+List.length e.2.1+1)*16≤lim) then bif decide (0≤a.2.2.1) then Za ([]++e.2.1)[Int.toNat a.2.2.1]? (none) fun d11=>Za ([]++e.2.1)[Int.toNat a.2.2.1]? (none) fun d12=>bif decide (0≤a.2.2.2.1) then Za (([]++e.2.1).set (Int.toNat a.2.2.1) d10.1)[Int.toNat a.2.2.2.1]? (none) fun d13=>Za (([]++e.2.1).set (Int.toNat a.2.2.1) d10.1)[Int.toNat a.2.2.2.1]? (none) fun d14=>Za (Q7 (a.2.2.2.2.2.2.1,())) (none) fun d15=>bif decide (0≤a.2.2.1) then Za e.2.1[Int.toNat a.2.2.1]? (none) fun d16=>bif decide (0≤a.2.2.2.1) then Za e.2.1[Int.toNat a.2.2.2.1]? (none) fun d17=>Za (ZX (d15,d16,d17,())) (none) fun d18=>bif a.2.2.1==a.2.2.2.1 then Za (ZH (d18.1,d18.2.1,())) (none) fun d19=>bif decide (d19.1>d19.2) then some ((e.1,(([]++e.2.1).set (Int.toNat a.2.2.1) d10.1).set (Int.toNat a.2.2.2.1) d10.2.1,e.2.2.1,e.2.2.2.1,e.2.2.2.2.1,e.2.2.2.2.2),(false,[],[],[],0,0),[],[],[]) else bif decide (d19.1>d19.2) then
 some ((e.1,(([]++e.2.1).set (Int.toNat a.2.2.1) d10.1).set (Int.toNat a.2.2.2.1) d10.2.1,e.2.2.1,e.2.2.2.1,e.2.2.2.2.1,e.2.2.2.2.2),(false,[],[],[],0,0),[],[],[]) else bif decide (((List.length (α:=I) [])+List.length e.2.1+1)*16≤lim) then bif decide (0≤a.2.2.1) then Za ([]++e.2.1)[Int.toNat a.2.2.1]? (none) fun d20=>Za ([]++e.2.1)[Int.toNat a.2.2.1]? (none) fun d21=>bif decide (0≤a.2.2.2.1) then Za (([]++e.2.1).set (Int.toNat a.2.2.1) d19)[Int.toNat a.2.2.2.1]? (none) fun d22=>Za (([]++e.2.1).set (Int.toNat a.2.2.1) d19)[Int.toNat a.2.2.2.1]? (none) fun d23=>some ((e.1,(([]++e.2.1).set (Int.toNat a.2.2.1) d10.1).set (Int.toNat a.2.2.2.1) d10.2.1,e.2.2.1,e.2.2.2.1,e.2.2.2.2.1,e.2.2.2.2.2),(e.1,(([]++e.2.1).set (Int.toNat a.2.2.1) d19).set (Int.toNat a.2.2.2.1) d19,e.2.2.1,e.2.2.2.1,e.2.2.2.2.1,e.2.2.2.2.2),[],[],[]) else none else none else none else bif decide (d18.1.1>d18.1.2) then some ((e.1,(([]++e.2.1).set (Int.toNat a.2.2.1) d10.1).set (Int.toNat a.2.2.2.1) d10.2.1,e.2.2.1,e.2.2.2.1,e.2.2.2.2.1,e.2.2.2.2.2),(false,[],[],[],0,0),[],[],[]) else bif decide (d18.2.1.1>d18.2.1.2) then some ((e.1,(([]++e.2.1).set (Int.toNat a.2.2.1) d10.1).set (Int.toNat a.2.2.2.1) d10.2.1,e.2.2.1,e.2.2.2.1,e.2.2.2.2.1,e.2.2.2.2.2),(false,[],[],[],0,0),[],[],[]) else bif decide (((List.length (α:=I) [])+List.length e.2.1+1)*16≤lim) then bif decide (0≤a.2.2.1) then Za ([]++e.2.1)[Int.toNat a.2.2.1]? (none) fun d19=>Za ([]++e.2.1)[Int.toNat a.2.2.1]? (none) fun d20=>bif decide (0≤a.2.2.2.1) then Za (([]++e.2.1).set (Int.toNat a.2.2.1) d18.1)[Int.toNat a.2.2.2.1]? (none) fun d21=>
 Za (([]++e.2.1).set (Int.toNat a.2.2.1) d18.1)[Int.toNat a.2.2.2.1]? (none) fun d22=>some ((e.1,(([]++e.2.1).set (Int.toNat a.2.2.1) d10.1).set (Int.toNat a.2.2.2.1) d10.2.1,e.2.2.1,e.2.2.2.1,e.2.2.2.2.1,e.2.2.2.2.2),(e.1,(([]++e.2.1).set (Int.toNat a.2.2.1) d18.1).set (Int.toNat a.2.2.2.1) d18.2.1,e.2.2.1,e.2.2.2.1,e.2.2.2.2.1,e.2.2.2.2.2),[],[],[]) else none else none else none else none else none else none else none else none else none else none else bif a.1==12 then some ((e.1,e.2.1,e.2.2.1,e.2.2.2.1,e.2.2.2.2.1,e.2.2.2.2.2),(false,[],[],[],0,0),[],[],[]) else bif a.1==13 then some ((false,[],[],[],0,0),(false,[],[],[],0,0),[10],[],[]) else some ((false,[],[],[],0,0),(false,[],[],[],0,0),[],[],[])
def Za2 (a0:U) (a1 a2:Int) (a3:E) (a4:List En):Option O:=bif decide (0≤a1) then Za a0.2.2.2[a1.toNat]? none fun d6=>bif decide (0≤a2) then Za d6.2[a2.toNat]? none fun d7=>bif a3.1 then bF a0 a1 a2 a3 a4 d6 d7 else some (((false,[],[],[],0,0):E),((false,[],[],[],0,0):E),[],[],[]) else none else none
def Ze6 (x:(U×(Int×(Int×(E×((List En)×Unit)))))):Option O:=Za2 x.1 x.2.1 x.2.2.1 x.2.2.2.1 x.2.2.2.2.1
def Zzt:=conP true ZUC (.dat tO) Ze6
theorem ZKF:Zf Tryz.prog 63 Zzt:=Ze (calU ZYO [] 40 1048576 8 63) true (by rfl) (by rfl) (fun x r e=>(Zk _ _ _ _ _ _ _).trans ((show _=Ze6 x by kernel_rfl).trans e)) (.inl rfl)
def ZMo (a0:A) (a1:E):Option O:=bif decide (0≤a0.2.2.1) then Za a1.2.1[Int.toNat a0.2.2.1]? none fun d3=>bif decide (0≤a0.2.2.2.1) then Za a1.2.1[Int.toNat a0.2.2.2.1]? none fun d4=>Za (ZyD (a0.2.2.2.2.2.2.1,d3,d4,())) none fun d5=>bif d5.2.1 then bif d5.2.2.1 then bif !decide (d5.1.1>d5.1.2) then Za (Zw (a1,a0.2.1,d5.1,())) none fun d6=>some ((d6.1,d6.2.1,d6.2.2.1,d6.2.2.2.1,d6.2.2.2.2.1,d6.2.2.2.2.2),((false,[],[],[],0,0):E),[7,8],[],[]) else some (((false,[],[],[],0,0):E),((false,[],[],[],0,0):E),[7,8],[],[]) else bif !decide (d5.1.1>d5.1.2) then Za (Zw (a1,a0.2.1,d5.1,())) none fun d6=>some ((d6.1,d6.2.1,d6.2.2.1,d6.2.2.2.1,d6.2.2.2.2.1,d6.2.2.2.2.2),((false,[],[],[],0,0):E),[7],[],[]) else some (((false,[],[],[],0,0):E),((false,[],[],[],0,0):E),[7],[],[]) else bif d5.2.2.1 then bif !decide (d5.1.1>d5.1.2) then Za (Zw (a1,a0.2.1,d5.1,())) none fun d6=>some ((d6.1,d6.2.1,d6.2.2.1,d6.2.2.2.1,d6.2.2.2.2.1,d6.2.2.2.2.2),((false,[],[],[],0,0):E),[8],[],[]) else some (((false,[],[],[],0,0):E),((false,[],[],[],0,0):E),[8],[],[]) else bif !decide (d5.1.1>d5.1.2) then Za (Zw (a1,a0.2.1,d5.1,())) none fun d6=>some ((d6.1,d6.2.1,d6.2.2.1,d6.2.2.2.1,d6.2.2.2.2.1,d6.2.2.2.2.2),((false,[],[],[],0,0):E),[],[],[]) else some (((false,[],[],[],0,0):E),((false,[],[],[],0,0):E),[],[],[]) else none else none
def Zp1 (x:A×(E×Unit)):Option O:=ZMo x.1 x.2.1
def ZAO (a0:A) (a1:E):Option O:=Za (YE (a1.2.2.2.2.1,a0.2.2.2.2.1,())) none fun d3=>bif !d3 then Za (YE (a1.2.2.2.2.2,a0.2.2.2.2.1,())) none fun d4=>bif !d4 then some (((false,[],[],[],0,0):E),((false,[],[],[],0,0):E),[12],[],[]) else Za (Zb1 (a1.2.2.2.2.1,[a0.2.2.2.2.1],())) none fun d5=>Za (Zb1 (a1.2.2.2.2.2,[a0.2.2.2.2.1],())) none fun d6=>some ((a1.1,a1.2.1,a1.2.2.1,a1.2.2.2.1,d5,d6),((false,[],[],[],0,0):E),[12],[],[]) else Za (YE (a1.2.2.2.2.2,a0.2.2.2.2.1,())) none fun d4=>bif !d4 then some (((false,[],[],[],0,0):E),((false,[],[],[],0,0):E),[],[],[]) else Za (Zb1 (a1.2.2.2.2.1,[a0.2.2.2.2.1],())) none fun d5=>Za (Zb1 (a1.2.2.2.2.2,[a0.2.2.2.2.1],())) none fun d6=>some ((a1.1,a1.2.1,a1.2.2.1,a1.2.2.2.1,d5,d6),((false,[],[],[],0,0):E),[],[],[])
def Zjj (x:A×(E×Unit)):Option O:=ZAO x.1 x.2.1
def Zw0 (a0:A) (a1:E) (a2:Int):Option E:=bif decide (0≤a0.2.2.1) then Za a1.2.1[Int.toNat a0.2.2.1]? none fun d4=>bif decide (0≤a0.2.2.2.1) then Za a1.2.1[Int.toNat a0.2.2.2.1]? none fun d5=>Za (Zli (a2,d4,d5,())) none fun d6=>bif a0.2.2.1==a0.2.2.2.1 then Za (ZY (d6.1,d6.2.1,())) none fun d7=>bif decide (d7.1>d7.2) then some ((false,[],[],[],0,0):E) else bif decide (d7.1>d7.2) then some ((false,[],[],[],0,0):E) else Za (Zw (a1,a0.2.2.1,d7,())) none fun d8=>Za (Zw (d8,a0.2.2.2.1,d7,())) none fun d9=>some (d9.1,d9.2.1,d9.2.2.1,d9.2.2.2.1,d9.2.2.2.2.1,d9.2.2.2.2.2) else bif decide (d6.1.1>d6.1.2) then some ((false,[],[],[],0,0):E) else bif decide (d6.2.1.1>d6.2.1.2) then some ((false,[],[],[],0,0):E) else Za (Zw (a1,a0.2.2.1,d6.1,())) none fun d7=>Za (Zw (d7,a0.2.2.2.1,d6.2.1,())) none fun d8=>some (d8.1,d8.2.1,d8.2.2.1,d8.2.2.2.1,d8.2.2.2.2.1,d8.2.2.2.2.2) else none else none
def ZcA (x:(A×(E×(Int×Unit)))):Option E:=Zw0 x.1 x.2.1 x.2.2.1
def ZMp (a0:Int):Option Int:=bif a0==1 then some 5 else bif a0==2 then some 6 else bif a0==3 then some 4 else bif a0==4 then some 3 else bif a0==5 then some 1 else bif a0==6 then some 2 else some a0
def Zny (x:Int×Unit):Option Int:=ZMp x.1
def bR (u:U) (t n:Int) (e:E) (l:List En) (c:C) (a:A):Option O:=bif a.1==1 then Za (Zw (e,a.2.1,(a.2.2.2.2.2.1,a.2.2.2.2.2.1),())) (none) fun d8=>some ((d8.1,d8.2.1,d8.2.2.1,d8.2.2.2.1,d8.2.2.2.2.1,d8.2.2.2.2.2),(false,[],[],[],0,0),[],[],[]) else bif a.1==2 then bif decide (0≤a.2.2.1) then Za e.2.1[Int.toNat a.2.2.1]? (none) fun d8=>Za (Zw (e,a.2.1,d8,())) (none) fun d9=>some ((d9.1,d9.2.1,d9.2.2.1,d9.2.2.2.1,d9.2.2.2.2.1,d9.2.2.2.2.2),(false,[],[],[],0,0),[],[],[]) else none else bif a.1==3 then Za (Zw (e,a.2.1,(-2147483648,2147483647),())) (none) fun d8=>some ((d8.1,d8.2.1,d8.2.2.1,d8.2.2.2.1,d8.2.2.2.2.1,d8.2.2.2.2.2),(false,[],[],[],0,0),[],[],[]) else bif a.1==4 then Za (Zp1 (a,e,())) (none) fun d8=>bif decide (0<(List.length d8.2.2.2.2:Int)) then Za d8.2.2.2.2[Int.toNat 0]? (none) fun d9=>none else some ((d8.1.1,d8.1.2.1,d8.1.2.2.1,d8.1.2.2.2.1,d8.1.2.2.2.2.1,d8.1.2.2.2.2.2),(d8.2.1.1,d8.2.1.2.1,d8.2.1.2.2.1,d8.2.1.2.2.2.1,d8.2.1.2.2.2.2.1,d8.2.1.2.2.2.2.2),d8.2.2.1,d8.2.2.2.1,d8.2.2.2.2) else bif a.1==5 then Za (Qm (t,e,l,false,a.2.2.2.2.1,())) (none) fun d8=>Za (Zw (e,a.2.1,d8,())) (none) fun d9=>some ((d9.1,d9.2.1,d9.2.2.1,d9.2.2.2.1,d9.2.2.2.2.1,d9.2.2.2.2.2),(false,[],[],[],0,0),[],[],[(t,n,false,a.2.2.2.2.1,false,e.2.2.2.2.1)]) else bif a.1==6 then bif decide (((List.length (α:=I) [])+List.length e.2.2.1+1)*16≤lim) then bif decide (0≤a.2.2.1) then Za e.2.1[Int.toNat a.2.2.1]? (none) fun d8=>bif decide (0≤a.2.2.2.2.1) then Za ([]++e.2.2.1)[Int.toNat a.2.2.2.2.1]? (none) fun d9=>
 Za ([]++e.2.2.1)[Int.toNat a.2.2.2.2.1]? (none) fun d10=>bif decide (0≤a.2.2.1) then Za e.2.1[Int.toNat a.2.2.1]? (none) fun d11=>some ((e.1,e.2.1,([]++e.2.2.1).set (Int.toNat a.2.2.2.2.1) d8,e.2.2.2.1,e.2.2.2.2.1,e.2.2.2.2.2),(false,[],[],[],0,0),[],[(t,false,a.2.2.2.2.1,e.2.2.2.2.1,d11.1,d11.2)],[(t,n,false,a.2.2.2.2.1,true,e.2.2.2.2.1)]) else none else none else none else none else bif a.1==7 then bif decide (0≤a.2.2.2.2.1) then Za u.2.1[Int.toNat a.2.2.2.2.1]? (none) fun d8=>bif decide (0≤a.2.2.1) then Za e.2.1[Int.toNat a.2.2.1]? (none) fun d9=>Za (JX (d9,(0,IntKind.i64.wrap (d8 - 1)),())) (none) fun d10=>bif !d10 then Za (ZY (d9,(0,IntKind.i64.wrap (d8 - 1)),())) (none) fun d11=>bif a.1==8 then bif decide (0≤a.2.2.2.1) then Za e.2.1[Int.toNat a.2.2.2.1]? (none) fun d12=>bif decide (d11.1>d11.2) then some ((false,[],[],[],0,0),(false,[],[],[],0,0),[9],[(t,true,a.2.2.2.2.1,e.2.2.2.2.1,d12.1,d12.2)],[(t,n,true,a.2.2.2.2.1,a.1==8,e.2.2.2.2.1)]) else Za (Zw (e,a.2.2.1,d11,())) (none) fun d13=>bif a.1==7 then Za (Qm (t,d13,l,true,a.2.2.2.2.1,())) (none) fun d14=>Za (Zw (d13,a.2.1,d14,())) (none) fun d15=>some ((d15.1,d15.2.1,d15.2.2.1,d15.2.2.2.1,d15.2.2.2.2.1,d15.2.2.2.2.2),(false,[],[],[],0,0),[9],[(t,true,a.2.2.2.2.1,e.2.2.2.2.1,d12.1,d12.2)],[(t,n,true,a.2.2.2.2.1,a.1==8,e.2.2.2.2.1)]) else bif decide (((List.length (α:=I) [])+List.length d13.2.2.2.1+1)*16≤lim) then bif decide (0≤a.2.2.2.2.1) then Za ([]++d13.2.2.2.1)[Int.toNat a.2.2.2.2.1]? (none) fun d14=>Za ([]++d13.2.2.2.1)[Int.toNat a.2.2.2.2.1]? (none) fun d15=>bif decide (0≤a.2.2.2.1) then
 Za d13.2.1[Int.toNat a.2.2.2.1]? (none) fun d16=>Za (Zz (d15,d16,())) (none) fun d17=>bif decide (0≤a.2.2.2.2.1) then Za ([]++d13.2.2.2.1)[Int.toNat a.2.2.2.2.1]? (none) fun d18=>Za ([]++d13.2.2.2.1)[Int.toNat a.2.2.2.2.1]? (none) fun d19=>some ((d13.1,d13.2.1,d13.2.2.1,([]++d13.2.2.2.1).set (Int.toNat a.2.2.2.2.1) d17,d13.2.2.2.2.1,d13.2.2.2.2.2),(false,[],[],[],0,0),[9],[(t,true,a.2.2.2.2.1,e.2.2.2.2.1,d12.1,d12.2)],[(t,n,true,a.2.2.2.2.1,a.1==8,e.2.2.2.2.1)]) else none else none else none else none else none else bif decide (d11.1>d11.2) then some ((false,[],[],[],0,0),(false,[],[],[],0,0),[9],[],[(t,n,true,a.2.2.2.2.1,a.1==8,e.2.2.2.2.1)]) else Za (Zw (e,a.2.2.1,d11,())) (none) fun d12=>bif a.1==7 then Za (Qm (t,d12,l,true,a.2.2.2.2.1,())) (none) fun d13=>Za (Zw (d12,a.2.1,d13,())) (none) fun d14=>some ((d14.1,d14.2.1,d14.2.2.1,d14.2.2.2.1,d14.2.2.2.2.1,d14.2.2.2.2.2),(false,[],[],[],0,0),[9],[],[(t,n,true,a.2.2.2.2.1,a.1==8,e.2.2.2.2.1)]) else bif decide (((List.length (α:=I) [])+List.length d12.2.2.2.1+1)*16≤lim) then bif decide (0≤a.2.2.2.2.1) then Za ([]++d12.2.2.2.1)[Int.toNat a.2.2.2.2.1]? (none) fun d13=>Za ([]++d12.2.2.2.1)[Int.toNat a.2.2.2.2.1]? (none) fun d14=>bif decide (0≤a.2.2.2.1) then Za d12.2.1[Int.toNat a.2.2.2.1]? (none) fun d15=>Za (Zz (d14,d15,())) (none) fun d16=>bif decide (0≤a.2.2.2.2.1) then Za ([]++d12.2.2.2.1)[Int.toNat a.2.2.2.2.1]? (none) fun d17=>Za ([]++d12.2.2.2.1)[Int.toNat a.2.2.2.2.1]? (none) fun d18=>
 some ((d12.1,d12.2.1,d12.2.2.1,([]++d12.2.2.2.1).set (Int.toNat a.2.2.2.2.1) d16,d12.2.2.2.2.1,d12.2.2.2.2.2),(false,[],[],[],0,0),[9],[],[(t,n,true,a.2.2.2.2.1,a.1==8,e.2.2.2.2.1)]) else none else none else none else none else Za (ZY (d9,(0,IntKind.i64.wrap (d8 - 1)),())) (none) fun d11=>bif a.1==8 then bif decide (0≤a.2.2.2.1) then Za e.2.1[Int.toNat a.2.2.2.1]? (none) fun d12=>bif decide (d11.1>d11.2) then some ((false,[],[],[],0,0),(false,[],[],[],0,0),[],[(t,true,a.2.2.2.2.1,e.2.2.2.2.1,d12.1,d12.2)],[(t,n,true,a.2.2.2.2.1,a.1==8,e.2.2.2.2.1)]) else Za (Zw (e,a.2.2.1,d11,())) (none) fun d13=>bif a.1==7 then Za (Qm (t,d13,l,true,a.2.2.2.2.1,())) (none) fun d14=>Za (Zw (d13,a.2.1,d14,())) (none) fun d15=>some ((d15.1,d15.2.1,d15.2.2.1,d15.2.2.2.1,d15.2.2.2.2.1,d15.2.2.2.2.2),(false,[],[],[],0,0),[],[(t,true,a.2.2.2.2.1,e.2.2.2.2.1,d12.1,d12.2)],[(t,n,true,a.2.2.2.2.1,a.1==8,e.2.2.2.2.1)]) else bif decide (((List.length (α:=I) [])+List.length d13.2.2.2.1+1)*16≤lim) then bif decide (0≤a.2.2.2.2.1) then Za ([]++d13.2.2.2.1)[Int.toNat a.2.2.2.2.1]? (none) fun d14=>Za ([]++d13.2.2.2.1)[Int.toNat a.2.2.2.2.1]? (none) fun d15=>bif decide (0≤a.2.2.2.1) then Za d13.2.1[Int.toNat a.2.2.2.1]? (none) fun d16=>Za (Zz (d15,d16,())) (none) fun d17=>bif decide (0≤a.2.2.2.2.1) then Za ([]++d13.2.2.2.1)[Int.toNat a.2.2.2.2.1]? (none) fun d18=>Za ([]++d13.2.2.2.1)[Int.toNat a.2.2.2.2.1]? (none) fun d19=>
 some ((d13.1,d13.2.1,d13.2.2.1,([]++d13.2.2.2.1).set (Int.toNat a.2.2.2.2.1) d17,d13.2.2.2.2.1,d13.2.2.2.2.2),(false,[],[],[],0,0),[],[(t,true,a.2.2.2.2.1,e.2.2.2.2.1,d12.1,d12.2)],[(t,n,true,a.2.2.2.2.1,a.1==8,e.2.2.2.2.1)]) else none else none else none else none else none else bif decide (d11.1>d11.2) then some ((false,[],[],[],0,0),(false,[],[],[],0,0),[],[],[(t,n,true,a.2.2.2.2.1,a.1==8,e.2.2.2.2.1)]) else Za (Zw (e,a.2.2.1,d11,())) (none) fun d12=>bif a.1==7 then Za (Qm (t,d12,l,true,a.2.2.2.2.1,())) (none) fun d13=>Za (Zw (d12,a.2.1,d13,())) (none) fun d14=>some ((d14.1,d14.2.1,d14.2.2.1,d14.2.2.2.1,d14.2.2.2.2.1,d14.2.2.2.2.2),(false,[],[],[],0,0),[],[],[(t,n,true,a.2.2.2.2.1,a.1==8,e.2.2.2.2.1)]) else bif decide (((List.length (α:=I) [])+List.length d12.2.2.2.1+1)*16≤lim) then bif decide (0≤a.2.2.2.2.1) then Za ([]++d12.2.2.2.1)[Int.toNat a.2.2.2.2.1]? (none) fun d13=>Za ([]++d12.2.2.2.1)[Int.toNat a.2.2.2.2.1]? (none) fun d14=>bif decide (0≤a.2.2.2.1) then Za d12.2.1[Int.toNat a.2.2.2.1]? (none) fun d15=>Za (Zz (d14,d15,())) (none) fun d16=>bif decide (0≤a.2.2.2.2.1) then Za ([]++d12.2.2.2.1)[Int.toNat a.2.2.2.2.1]? (none) fun d17=>Za ([]++d12.2.2.2.1)[Int.toNat a.2.2.2.2.1]? (none) fun d18=>some ((d12.1,d12.2.1,d12.2.2.1,([]++d12.2.2.2.1).set (Int.toNat a.2.2.2.2.1) d16,d12.2.2.2.2.1,d12.2.2.2.2.2),(false,[],[],[],0,0),[],[],[(t,n,true,a.2.2.2.2.1,a.1==8,e.2.2.2.2.1)]) else none else none else none else none else none else none else bif a.1==8 then bif decide (0≤a.2.2.2.2.1) then Za u.2.1[Int.toNat a.2.2.2.2.1]? (none) fun d8=>bif decide (0≤a.2.2.1) then
 Za e.2.1[Int.toNat a.2.2.1]? (none) fun d9=>Za (JX (d9,(0,IntKind.i64.wrap (d8 - 1)),())) (none) fun d10=>bif !d10 then Za (ZY (d9,(0,IntKind.i64.wrap (d8 - 1)),())) (none) fun d11=>bif a.1==8 then bif decide (0≤a.2.2.2.1) then Za e.2.1[Int.toNat a.2.2.2.1]? (none) fun d12=>bif decide (d11.1>d11.2) then some ((false,[],[],[],0,0),(false,[],[],[],0,0),[9],[(t,true,a.2.2.2.2.1,e.2.2.2.2.1,d12.1,d12.2)],[(t,n,true,a.2.2.2.2.1,a.1==8,e.2.2.2.2.1)]) else Za (Zw (e,a.2.2.1,d11,())) (none) fun d13=>bif a.1==7 then Za (Qm (t,d13,l,true,a.2.2.2.2.1,())) (none) fun d14=>Za (Zw (d13,a.2.1,d14,())) (none) fun d15=>some ((d15.1,d15.2.1,d15.2.2.1,d15.2.2.2.1,d15.2.2.2.2.1,d15.2.2.2.2.2),(false,[],[],[],0,0),[9],[(t,true,a.2.2.2.2.1,e.2.2.2.2.1,d12.1,d12.2)],[(t,n,true,a.2.2.2.2.1,a.1==8,e.2.2.2.2.1)]) else bif decide (((List.length (α:=I) [])+List.length d13.2.2.2.1+1)*16≤lim) then bif decide (0≤a.2.2.2.2.1) then Za ([]++d13.2.2.2.1)[Int.toNat a.2.2.2.2.1]? (none) fun d14=>Za ([]++d13.2.2.2.1)[Int.toNat a.2.2.2.2.1]? (none) fun d15=>bif decide (0≤a.2.2.2.1) then Za d13.2.1[Int.toNat a.2.2.2.1]? (none) fun d16=>Za (Zz (d15,d16,())) (none) fun d17=>bif decide (0≤a.2.2.2.2.1) then Za ([]++d13.2.2.2.1)[Int.toNat a.2.2.2.2.1]? (none) fun d18=>Za ([]++d13.2.2.2.1)[Int.toNat a.2.2.2.2.1]? (none) fun d19=>some ((d13.1,d13.2.1,d13.2.2.1,([]++d13.2.2.2.1).set (Int.toNat a.2.2.2.2.1) d17,d13.2.2.2.2.1,d13.2.2.2.2.2),(false,[],[],[],0,0),[9],[(t,true,a.2.2.2.2.1,e.2.2.2.2.1,d12.1,d12.2)],[(t,n,true,a.2.2.2.2.1,a.1==8,e.2.2.2.2.1)]) else none else none else none
 else none else none else bif decide (d11.1>d11.2) then some ((false,[],[],[],0,0),(false,[],[],[],0,0),[9],[],[(t,n,true,a.2.2.2.2.1,a.1==8,e.2.2.2.2.1)]) else Za (Zw (e,a.2.2.1,d11,())) (none) fun d12=>bif a.1==7 then Za (Qm (t,d12,l,true,a.2.2.2.2.1,())) (none) fun d13=>Za (Zw (d12,a.2.1,d13,())) (none) fun d14=>some ((d14.1,d14.2.1,d14.2.2.1,d14.2.2.2.1,d14.2.2.2.2.1,d14.2.2.2.2.2),(false,[],[],[],0,0),[9],[],[(t,n,true,a.2.2.2.2.1,a.1==8,e.2.2.2.2.1)]) else bif decide (((List.length (α:=I) [])+List.length d12.2.2.2.1+1)*16≤lim) then bif decide (0≤a.2.2.2.2.1) then Za ([]++d12.2.2.2.1)[Int.toNat a.2.2.2.2.1]? (none) fun d13=>Za ([]++d12.2.2.2.1)[Int.toNat a.2.2.2.2.1]? (none) fun d14=>bif decide (0≤a.2.2.2.1) then Za d12.2.1[Int.toNat a.2.2.2.1]? (none) fun d15=>Za (Zz (d14,d15,())) (none) fun d16=>bif decide (0≤a.2.2.2.2.1) then Za ([]++d12.2.2.2.1)[Int.toNat a.2.2.2.2.1]? (none) fun d17=>Za ([]++d12.2.2.2.1)[Int.toNat a.2.2.2.2.1]? (none) fun d18=>some ((d12.1,d12.2.1,d12.2.2.1,([]++d12.2.2.2.1).set (Int.toNat a.2.2.2.2.1) d16,d12.2.2.2.2.1,d12.2.2.2.2.2),(false,[],[],[],0,0),[9],[],[(t,n,true,a.2.2.2.2.1,a.1==8,e.2.2.2.2.1)]) else none else none else none else none else Za (ZY (d9,(0,IntKind.i64.wrap (d8 - 1)),())) (none) fun d11=>bif a.1==8 then bif decide (0≤a.2.2.2.1) then Za e.2.1[Int.toNat a.2.2.2.1]? (none) fun d12=>bif decide (d11.1>d11.2) then some ((false,[],[],[],0,0),(false,[],[],[],0,0),[],[(t,true,a.2.2.2.2.1,e.2.2.2.2.1,d12.1,d12.2)],[(t,n,true,a.2.2.2.2.1,a.1==8,e.2.2.2.2.1)])
 else Za (Zw (e,a.2.2.1,d11,())) (none) fun d13=>bif a.1==7 then Za (Qm (t,d13,l,true,a.2.2.2.2.1,())) (none) fun d14=>Za (Zw (d13,a.2.1,d14,())) (none) fun d15=>some ((d15.1,d15.2.1,d15.2.2.1,d15.2.2.2.1,d15.2.2.2.2.1,d15.2.2.2.2.2),(false,[],[],[],0,0),[],[(t,true,a.2.2.2.2.1,e.2.2.2.2.1,d12.1,d12.2)],[(t,n,true,a.2.2.2.2.1,a.1==8,e.2.2.2.2.1)]) else bif decide (((List.length (α:=I) [])+List.length d13.2.2.2.1+1)*16≤lim) then bif decide (0≤a.2.2.2.2.1) then Za ([]++d13.2.2.2.1)[Int.toNat a.2.2.2.2.1]? (none) fun d14=>Za ([]++d13.2.2.2.1)[Int.toNat a.2.2.2.2.1]? (none) fun d15=>bif decide (0≤a.2.2.2.1) then Za d13.2.1[Int.toNat a.2.2.2.1]? (none) fun d16=>Za (Zz (d15,d16,())) (none) fun d17=>bif decide (0≤a.2.2.2.2.1) then Za ([]++d13.2.2.2.1)[Int.toNat a.2.2.2.2.1]? (none) fun d18=>Za ([]++d13.2.2.2.1)[Int.toNat a.2.2.2.2.1]? (none) fun d19=>some ((d13.1,d13.2.1,d13.2.2.1,([]++d13.2.2.2.1).set (Int.toNat a.2.2.2.2.1) d17,d13.2.2.2.2.1,d13.2.2.2.2.2),(false,[],[],[],0,0),[],[(t,true,a.2.2.2.2.1,e.2.2.2.2.1,d12.1,d12.2)],[(t,n,true,a.2.2.2.2.1,a.1==8,e.2.2.2.2.1)]) else none else none else none else none else none else bif decide (d11.1>d11.2) then some ((false,[],[],[],0,0),(false,[],[],[],0,0),[],[],[(t,n,true,a.2.2.2.2.1,a.1==8,e.2.2.2.2.1)]) else Za (Zw (e,a.2.2.1,d11,())) (none) fun d12=>bif a.1==7 then Za (Qm (t,d12,l,true,a.2.2.2.2.1,())) (none) fun d13=>Za (Zw (d12,a.2.1,d13,())) (none) fun d14=>
 some ((d14.1,d14.2.1,d14.2.2.1,d14.2.2.2.1,d14.2.2.2.2.1,d14.2.2.2.2.2),(false,[],[],[],0,0),[],[],[(t,n,true,a.2.2.2.2.1,a.1==8,e.2.2.2.2.1)]) else bif decide (((List.length (α:=I) [])+List.length d12.2.2.2.1+1)*16≤lim) then bif decide (0≤a.2.2.2.2.1) then Za ([]++d12.2.2.2.1)[Int.toNat a.2.2.2.2.1]? (none) fun d13=>Za ([]++d12.2.2.2.1)[Int.toNat a.2.2.2.2.1]? (none) fun d14=>bif decide (0≤a.2.2.2.1) then Za d12.2.1[Int.toNat a.2.2.2.1]? (none) fun d15=>Za (Zz (d14,d15,())) (none) fun d16=>bif decide (0≤a.2.2.2.2.1) then Za ([]++d12.2.2.2.1)[Int.toNat a.2.2.2.2.1]? (none) fun d17=>Za ([]++d12.2.2.2.1)[Int.toNat a.2.2.2.2.1]? (none) fun d18=>some ((d12.1,d12.2.1,d12.2.2.1,([]++d12.2.2.2.1).set (Int.toNat a.2.2.2.2.1) d16,d12.2.2.2.2.1,d12.2.2.2.2.2),(false,[],[],[],0,0),[],[],[(t,n,true,a.2.2.2.2.1,a.1==8,e.2.2.2.2.1)]) else none else none else none else none else none else none else bif a.1==9 then Za (ZmJ (t,a,e,l,())) (none) fun d8=>bif decide (0<(List.length d8.2.2.2.2:Int)) then Za d8.2.2.2.2[Int.toNat 0]? (none) fun d9=>none else some ((d8.1.1,d8.1.2.1,d8.1.2.2.1,d8.1.2.2.2.1,d8.1.2.2.2.2.1,d8.1.2.2.2.2.2),(d8.2.1.1,d8.2.1.2.1,d8.2.1.2.2.1,d8.2.1.2.2.2.1,d8.2.1.2.2.2.2.1,d8.2.1.2.2.2.2.2),d8.2.2.1,d8.2.2.2.1,d8.2.2.2.2) else bif a.1==10 then Za (Zjj (a,e,())) (none) fun d8=>bif decide (0<(List.length d8.2.2.2.2:Int)) then Za d8.2.2.2.2[Int.toNat 0]? (none) fun d9=>none else some ((d8.1.1,d8.1.2.1,d8.1.2.2.1,d8.1.2.2.2.1,d8.1.2.2.2.2.1,d8.1.2.2.2.2.2),(d8.2.1.1,d8.2.1.2.1,d8.2.1.2.2.1,d8.2.1.2.2.2.1,d8.2.1.2.2.2.2.1,d8.2.1.2.2.2.2.2),d8.2.2.1,d8.2.2.2.1,d8.2.2.2.2) else bif a.1==11 then
 Za (ZcA (a,e,a.2.2.2.2.2.2.1,())) (none) fun d8=>Za (Zny (a.2.2.2.2.2.2.1,())) (none) fun d9=>Za (ZcA (a,e,d9,())) (none) fun d10=>some ((d8.1,d8.2.1,d8.2.2.1,d8.2.2.2.1,d8.2.2.2.2.1,d8.2.2.2.2.2),(d10.1,d10.2.1,d10.2.2.1,d10.2.2.2.1,d10.2.2.2.2.1,d10.2.2.2.2.2),[],[],[]) else bif a.1==13 then some ((false,[],[],[],0,0),(false,[],[],[],0,0),[10],[],[]) else bif a.1==14 then some ((false,[],[],[],0,0),(false,[],[],[],0,0),[],[],[]) else some ((e.1,e.2.1,e.2.2.1,e.2.2.2.1,e.2.2.2.2.1,e.2.2.2.2.2),(false,[],[],[],0,0),[],[],[])
def ZnD (a0:U) (a1 a2:Int) (a3:E) (a4:List En):Option O:=bif !a3.1 then some (((false,[],[],[],0,0):E),((false,[],[],[],0,0):E),[],[],[]) else bif decide (0≤a1) then Za a0.2.2.2[a1.toNat]? none fun d6=>bif decide (0≤a2) then Za d6.2[a2.toNat]? none fun d7=>bR a0 a1 a2 a3 a4 d6 d7 else none else none
def Zce (x:(U×(Int×(Int×(E×((List En)×Unit)))))):Option O:=ZnD x.1 x.2.1 x.2.2.1 x.2.2.2.1 x.2.2.2.2.1
theorem ZRf (u:U) (t n:Int) (e:E) (l:List En) (c:C) (a:A) (h0:0≤t) (hc:u.2.2.2[t.toNat]? = some c) (h1:0≤n) (ha:c.2[n.toNat]? = some a) (he:e.1=true):Za2 u t n e l=bF u t n e l c a:=by
 have e0:decide (0≤t)=true:=dT0 h0
 have e1:decide (0≤n)=true:=dT0 h1
 have e2:(!e.1)=false:=by rw [he];rfl
 unfold Za2
 rw [e0,hc,e1,cond_true,Zb,cond_true,ha,Zb]
 show (bif e.1 then _ else _)=_
 exact (congrArg (fun b=>bif b then bF u t n e l c a else _) he)
theorem F_1 (u:U) (t n:Int) (e:E) (l:List En) (c:C) (T X Y G N op nx el:Int):bF u t n e l c (1,T,X,Y,G,N,op,nx,el) =
 Za (Zo8 ([N],())) (none) fun d8=>
  bif decide (((List.length (α:=I) [])+List.length e.2.1+1)*16≤lim) then
  bif decide (0≤T) then
  Za ([]++e.2.1)[Int.toNat T]? (none) fun d9=>
  Za ([]++e.2.1)[Int.toNat T]? (none) fun d10=>
  some ((e.1,([]++e.2.1).set (Int.toNat T) d8,e.2.2.1,e.2.2.2.1,e.2.2.2.2.1,e.2.2.2.2.2),(false,[],[],[],0,0),[],[],[])
 else none
 else none:=by kernel_rfl
theorem F_2 (u:U) (t n:Int) (e:E) (l:List En) (c:C) (T X Y G N op nx el:Int):bF u t n e l c (2,T,X,Y,G,N,op,nx,el) =
 bif decide (0≤X) then
  Za e.2.1[Int.toNat X]? (none) fun d8=>
  bif decide (((List.length (α:=I) [])+List.length e.2.1+1)*16≤lim) then
  bif decide (0≤T) then
  Za ([]++e.2.1)[Int.toNat T]? (none) fun d9=>
  Za ([]++e.2.1)[Int.toNat T]? (none) fun d10=>
  some ((e.1,([]++e.2.1).set (Int.toNat T) d8,e.2.2.1,e.2.2.2.1,e.2.2.2.2.1,e.2.2.2.2.2),(false,[],[],[],0,0),[],[],[])
 else none
 else none
 else none:=by kernel_rfl
theorem F_3 (u:U) (t n:Int) (e:E) (l:List En) (c:C) (T X Y G N op nx el:Int):bF u t n e l c (3,T,X,Y,G,N,op,nx,el) =
 bif decide (((List.length (α:=I) [])+List.length e.2.1+1)*16≤lim) then
  bif decide (0≤T) then
  Za ([]++e.2.1)[Int.toNat T]? (none) fun d8=>
  Za ([]++e.2.1)[Int.toNat T]? (none) fun d9=>
  some ((e.1,([]++e.2.1).set (Int.toNat T) (-2147483648,2147483647),e.2.2.1,e.2.2.2.1,e.2.2.2.2.1,e.2.2.2.2.2),(false,[],[],[],0,0),[],[],[])
 else none
 else none:=by kernel_rfl
theorem F_4 (u:U) (t n:Int) (e:E) (l:List En) (c:C) (T X Y G N op nx el:Int):bF u t n e l c (4,T,X,Y,G,N,op,nx,el) =
 bif decide (0≤X) then
  Za e.2.1[Int.toNat X]? (none) fun d8=>
  bif decide (0≤Y) then
  Za e.2.1[Int.toNat Y]? (none) fun d9=>
  Za (Zsc (op,d8,d9,())) (none) fun d10=>
  bif d10.2.1 then
  bif d10.2.2.1 then
  bif !decide (d10.1.1>d10.1.2) then
  bif decide (((List.length (α:=I) [])+List.length e.2.1+1)*16≤lim) then
  bif decide (0≤T) then
  Za ([]++e.2.1)[Int.toNat T]? (none) fun d11=>
  Za ([]++e.2.1)[Int.toNat T]? (none) fun d12=>
  some ((e.1,([]++e.2.1).set (Int.toNat T) d10.1,e.2.2.1,e.2.2.2.1,e.2.2.2.2.1,e.2.2.2.2.2),(false,[],[],[],0,0),[7,8],[],[])
 else none
 else none
 else some ((false,[],[],[],0,0),(false,[],[],[],0,0),[7,8],[],[])
 else bif !decide (d10.1.1>d10.1.2) then
  bif decide (((List.length (α:=I) [])+List.length e.2.1+1)*16≤lim) then
  bif decide (0≤T) then
  Za ([]++e.2.1)[Int.toNat T]? (none) fun d11=>
  Za ([]++e.2.1)[Int.toNat T]? (none) fun d12=>
  some ((e.1,([]++e.2.1).set (Int.toNat T) d10.1,e.2.2.1,e.2.2.2.1,e.2.2.2.2.1,e.2.2.2.2.2),(false,[],[],[],0,0),[7],[],[])
 else none
 else none
 else some ((false,[],[],[],0,0),(false,[],[],[],0,0),[7],[],[])
 else bif d10.2.2.1 then
  bif !decide (d10.1.1>d10.1.2) then
  bif decide (((List.length (α:=I) [])+List.length e.2.1+1)*16≤lim) then
  bif decide (0≤T) then
  Za ([]++e.2.1)[Int.toNat T]? (none) fun d11=>
  Za ([]++e.2.1)[Int.toNat T]? (none) fun d12=>
  some ((e.1,([]++e.2.1).set (Int.toNat T) d10.1,e.2.2.1,e.2.2.2.1,e.2.2.2.2.1,e.2.2.2.2.2),(false,[],[],[],0,0),[8],[],[])
 else none
 else none
 else some ((false,[],[],[],0,0),(false,[],[],[],0,0),[8],[],[])
 else bif !decide (d10.1.1>d10.1.2) then
  bif decide (((List.length (α:=I) [])+List.length e.2.1+1)*16≤lim) then
  bif decide (0≤T) then
  Za ([]++e.2.1)[Int.toNat T]? (none) fun d11=>
  Za ([]++e.2.1)[Int.toNat T]? (none) fun d12=>
  some ((e.1,([]++e.2.1).set (Int.toNat T) d10.1,e.2.2.1,e.2.2.2.1,e.2.2.2.2.1,e.2.2.2.2.2),(false,[],[],[],0,0),[],[],[])
 else none
 else none
 else some ((false,[],[],[],0,0),(false,[],[],[],0,0),[],[],[])
 else none
 else none:=by kernel_rfl
theorem F_5 (u:U) (t n:Int) (e:E) (l:List En) (c:C) (T X Y G N op nx el:Int):bF u t n e l c (5,T,X,Y,G,N,op,nx,el) =
 Za (Qe (u,t,e,l,false,G,())) (none) fun d8=>
  bif decide (((List.length (α:=I) [])+List.length e.2.1+1)*16≤lim) then
  bif decide (0≤T) then
  Za ([]++e.2.1)[Int.toNat T]? (none) fun d9=>
  Za ([]++e.2.1)[Int.toNat T]? (none) fun d10=>
  some ((e.1,([]++e.2.1).set (Int.toNat T) d8,e.2.2.1,e.2.2.2.1,e.2.2.2.2.1,e.2.2.2.2.2),(false,[],[],[],0,0),[],[],[(t,n,false,G,false,e.2.2.2.2.1)])
 else none
 else none:=by kernel_rfl
theorem F_6 (u:U) (t n:Int) (e:E) (l:List En) (c:C) (T X Y G N op nx el:Int):bF u t n e l c (6,T,X,Y,G,N,op,nx,el) =
 bif decide (0≤X) then
  Za e.2.1[Int.toNat X]? (none) fun d8=>
  bif decide (((List.length (α:=I) [])+List.length e.2.2.1+1)*16≤lim) then
  bif decide (0≤G) then
  Za ([]++e.2.2.1)[Int.toNat G]? (none) fun d9=>
  Za ([]++e.2.2.1)[Int.toNat G]? (none) fun d10=>
  some ((e.1,e.2.1,([]++e.2.2.1).set (Int.toNat G) d8,e.2.2.2.1,e.2.2.2.2.1,e.2.2.2.2.2),(false,[],[],[],0,0),[],[(t,false,G,e.2.2.2.2.1,d8.1,d8.2)],[(t,n,false,G,true,e.2.2.2.2.1)])
 else none
 else none
 else none:=by kernel_rfl
theorem F_7 (u:U) (t n:Int) (e:E) (l:List En) (c:C) (T X Y G N op nx el:Int):bF u t n e l c (7,T,X,Y,G,N,op,nx,el) =
 bif decide (0≤G) then
  Za u.2.1[Int.toNat G]? (none) fun d8=>
  bif decide (0≤X) then
  Za e.2.1[Int.toNat X]? (none) fun d9=>
  Za (QB (d9,(0,IntKind.i64.wrap (d8 - 1)),())) (none) fun d10=>
  bif !d10 then
  Za (ZH (d9,(0,IntKind.i64.wrap (d8 - 1)),())) (none) fun d11=>
  bif decide (d11.1>d11.2) then
  some ((false,[],[],[],0,0),(false,[],[],[],0,0),[9],[],[(t,n,true,G,7==8,e.2.2.2.2.1)])
 else bif decide (((List.length (α:=I) [])+List.length e.2.1+1)*16≤lim) then
  bif decide (0≤X) then
  Za ([]++e.2.1)[Int.toNat X]? (none) fun d12=>
  Za ([]++e.2.1)[Int.toNat X]? (none) fun d13=>
  Za (Qe (u,t,(e.1,([]++e.2.1).set (Int.toNat X) d11,e.2.2),l,true,G,())) (none) fun d14=>
  bif decide (((List.length (α:=I) [])+(([]++e.2.1).set (Int.toNat X) d11).length+1)*16≤lim) then
  bif decide (0≤T) then
  Za ([]++([]++e.2.1).set (Int.toNat X) d11)[Int.toNat T]? (none) fun d15=>
  Za ([]++([]++e.2.1).set (Int.toNat X) d11)[Int.toNat T]? (none) fun d16=>
  some ((e.1,([]++([]++e.2.1).set (Int.toNat X) d11).set (Int.toNat T) d14,e.2.2.1,e.2.2.2.1,e.2.2.2.2.1,e.2.2.2.2.2),(false,[],[],[],0,0),[9],[],[(t,n,true,G,7==8,e.2.2.2.2.1)])
 else none
 else none
 else none
 else none
 else Za (ZH (d9,(0,IntKind.i64.wrap (d8 - 1)),())) (none) fun d11=>
  bif decide (d11.1>d11.2) then
  some ((false,[],[],[],0,0),(false,[],[],[],0,0),[],[],[(t,n,true,G,7==8,e.2.2.2.2.1)])
 else bif decide (((List.length (α:=I) [])+List.length e.2.1+1)*16≤lim) then
  bif decide (0≤X) then
  Za ([]++e.2.1)[Int.toNat X]? (none) fun d12=>
  Za ([]++e.2.1)[Int.toNat X]? (none) fun d13=>
  Za (Qe (u,t,(e.1,([]++e.2.1).set (Int.toNat X) d11,e.2.2),l,true,G,())) (none) fun d14=>
  bif decide (((List.length (α:=I) [])+(([]++e.2.1).set (Int.toNat X) d11).length+1)*16≤lim) then
  bif decide (0≤T) then
  Za ([]++([]++e.2.1).set (Int.toNat X) d11)[Int.toNat T]? (none) fun d15=>
  Za ([]++([]++e.2.1).set (Int.toNat X) d11)[Int.toNat T]? (none) fun d16=>
  some ((e.1,([]++([]++e.2.1).set (Int.toNat X) d11).set (Int.toNat T) d14,e.2.2.1,e.2.2.2.1,e.2.2.2.2.1,e.2.2.2.2.2),(false,[],[],[],0,0),[],[],[(t,n,true,G,7==8,e.2.2.2.2.1)])
 else none
 else none
 else none
 else none
 else none
 else none:=by kernel_rfl
theorem F_8 (u:U) (t n:Int) (e:E) (l:List En) (c:C) (T X Y G N op nx el:Int):bF u t n e l c (8,T,X,Y,G,N,op,nx,el) =
 bif decide (0≤G) then
  Za u.2.1[Int.toNat G]? (none) fun d8=>
  bif decide (0≤X) then
  Za e.2.1[Int.toNat X]? (none) fun d9=>
  Za (QB (d9,(0,IntKind.i64.wrap (d8 - 1)),())) (none) fun d10=>
  bif !d10 then
  bif decide (0≤Y) then
  Za e.2.1[Int.toNat Y]? (none) fun d11=>
  Za (ZH (d9,(0,IntKind.i64.wrap (d8 - 1)),())) (none) fun d12=>
  bif decide (d12.1>d12.2) then
  some ((false,[],[],[],0,0),(false,[],[],[],0,0),[9],[(t,true,G,e.2.2.2.2.1,d11.1,d11.2)],[(t,n,true,G,8==8,e.2.2.2.2.1)])
 else bif decide (((List.length (α:=I) [])+List.length e.2.1+1)*16≤lim) then
  bif decide (0≤X) then
  Za ([]++e.2.1)[Int.toNat X]? (none) fun d13=>
  Za ([]++e.2.1)[Int.toNat X]? (none) fun d14=>
  bif decide (((List.length (α:=I) [])+List.length e.2.2.2.1+1)*16≤lim) then
  bif decide (0≤G) then
  Za ([]++e.2.2.2.1)[Int.toNat G]? (none) fun d15=>
  Za ([]++e.2.2.2.1)[Int.toNat G]? (none) fun d16=>
  bif decide (0≤Y) then
  Za (([]++e.2.1).set (Int.toNat X) d12)[Int.toNat Y]? (none) fun d17=>
  Za (([]++e.2.1).set (Int.toNat X) d12)[Int.toNat Y]? (none) fun d18=>
  Za (ZM ([d16,d18],())) (none) fun d19=>
  bif decide (0≤G) then
  Za ([]++e.2.2.2.1)[Int.toNat G]? (none) fun d20=>
  Za ([]++e.2.2.2.1)[Int.toNat G]? (none) fun d21=>
  some ((e.1,([]++e.2.1).set (Int.toNat X) d12,e.2.2.1,([]++e.2.2.2.1).set (Int.toNat G) d19,e.2.2.2.2.1,e.2.2.2.2.2),(false,[],[],[],0,0),[9],[(t,true,G,e.2.2.2.2.1,d11.1,d11.2)],[(t,n,true,G,8==8,e.2.2.2.2.1)])
 else none
 else none
 else none
 else none
 else none
 else none
 else none
 else bif decide (0≤Y) then
  Za e.2.1[Int.toNat Y]? (none) fun d11=>
  Za (ZH (d9,(0,IntKind.i64.wrap (d8 - 1)),())) (none) fun d12=>
  bif decide (d12.1>d12.2) then
  some ((false,[],[],[],0,0),(false,[],[],[],0,0),[],[(t,true,G,e.2.2.2.2.1,d11.1,d11.2)],[(t,n,true,G,8==8,e.2.2.2.2.1)])
 else bif decide (((List.length (α:=I) [])+List.length e.2.1+1)*16≤lim) then
  bif decide (0≤X) then
  Za ([]++e.2.1)[Int.toNat X]? (none) fun d13=>
  Za ([]++e.2.1)[Int.toNat X]? (none) fun d14=>
  bif decide (((List.length (α:=I) [])+List.length e.2.2.2.1+1)*16≤lim) then
  bif decide (0≤G) then
  Za ([]++e.2.2.2.1)[Int.toNat G]? (none) fun d15=>
  Za ([]++e.2.2.2.1)[Int.toNat G]? (none) fun d16=>
  bif decide (0≤Y) then
  Za (([]++e.2.1).set (Int.toNat X) d12)[Int.toNat Y]? (none) fun d17=>
  Za (([]++e.2.1).set (Int.toNat X) d12)[Int.toNat Y]? (none) fun d18=>
  Za (ZM ([d16,d18],())) (none) fun d19=>
  bif decide (0≤G) then
  Za ([]++e.2.2.2.1)[Int.toNat G]? (none) fun d20=>
  Za ([]++e.2.2.2.1)[Int.toNat G]? (none) fun d21=>
  some ((e.1,([]++e.2.1).set (Int.toNat X) d12,e.2.2.1,([]++e.2.2.2.1).set (Int.toNat G) d19,e.2.2.2.2.1,e.2.2.2.2.2),(false,[],[],[],0,0),[],[(t,true,G,e.2.2.2.2.1,d11.1,d11.2)],[(t,n,true,G,8==8,e.2.2.2.2.1)])
 else none
 else none
 else none
 else none
 else none
 else none
 else none
 else none
 else none:=by kernel_rfl
theorem F_9 (u:U) (t n:Int) (e:E) (l:List En) (c:C) (T X Y G N op nx el:Int):bF u t n e l c (9,T,X,Y,G,N,op,nx,el) =
 Za (ZZ (e.2.2.2.2.2,G,())) (none) fun d8=>
  bif d8 then
  Za (ZZ (e.2.2.2.2.1,G,())) (none) fun d9=>
  bif d9 then
  some ((false,[],[],[],0,0),(false,[],[],[],0,0),[11],[],[])
 else Za (Z9 ((9,T,X,Y,G,N,op,nx,el,u.1,u.2.1,u.2.2.1,u.2.2.2,t,n,e.1,e.2.1,e.2.2.1,e.2.2.2.1,e.2.2.2.2.1,e.2.2.2.2.2,l,false,[],[],[],0,0,false,[],[],[],0,0,[11],[],[],()),e.2.2.1,false,())) (none) fun d10=>
  Za (Z9 ((9,T,X,Y,G,N,op,nx,el,u.1,u.2.1,u.2.2.1,u.2.2.2,t,n,e.1,e.2.1,e.2.2.1,e.2.2.2.1,e.2.2.2.2.1,e.2.2.2.2.2,l,false,[],[],[],0,0,false,[],[],[],0,0,[11],[],[],()),e.2.2.2.1,true,())) (none) fun d11=>
  Za (Yz (e.2.2.2.2.1,[G],())) (none) fun d12=>
  Za (Yz (e.2.2.2.2.2,[G],())) (none) fun d13=>
  some ((e.1,e.2.1,d10,d11,d12,d13),(false,[],[],[],0,0),[11],[],[])
 else Za (ZZ (e.2.2.2.2.1,G,())) (none) fun d9=>
  bif d9 then
  some ((false,[],[],[],0,0),(false,[],[],[],0,0),[],[],[])
 else Za (Z9 ((9,T,X,Y,G,N,op,nx,el,u.1,u.2.1,u.2.2.1,u.2.2.2,t,n,e.1,e.2.1,e.2.2.1,e.2.2.2.1,e.2.2.2.2.1,e.2.2.2.2.2,l,false,[],[],[],0,0,false,[],[],[],0,0,[],[],[],()),e.2.2.1,false,())) (none) fun d10=>
  Za (Z9 ((9,T,X,Y,G,N,op,nx,el,u.1,u.2.1,u.2.2.1,u.2.2.2,t,n,e.1,e.2.1,e.2.2.1,e.2.2.2.1,e.2.2.2.2.1,e.2.2.2.2.2,l,false,[],[],[],0,0,false,[],[],[],0,0,[],[],[],()),e.2.2.2.1,true,())) (none) fun d11=>
  Za (Yz (e.2.2.2.2.1,[G],())) (none) fun d12=>
  Za (Yz (e.2.2.2.2.2,[G],())) (none) fun d13=>
  some ((e.1,e.2.1,d10,d11,d12,d13),(false,[],[],[],0,0),[],[],[]):=by kernel_rfl
theorem Z3Y (u:U) (t n:Int) (e:E) (l:List En) (c:C) (T X Y G N op nx el:Int):bF u t n e l c (10,T,X,Y,G,N,op,nx,el) =
 Za (ZZ (e.2.2.2.2.1,G,())) (none) fun d8=>
  bif !d8 then
  Za (ZZ (e.2.2.2.2.2,G,())) (none) fun d9=>
  bif !d9 then
  some ((false,[],[],[],0,0),(false,[],[],[],0,0),[12],[],[])
 else Za (QN (e.2.2.2.2.1,[G],())) (none) fun d10=>
  Za (QN (e.2.2.2.2.2,[G],())) (none) fun d11=>
  some ((e.1,e.2.1,e.2.2.1,e.2.2.2.1,d10,d11),(false,[],[],[],0,0),[12],[],[])
 else Za (ZZ (e.2.2.2.2.2,G,())) (none) fun d9=>
  bif !d9 then
  some ((false,[],[],[],0,0),(false,[],[],[],0,0),[],[],[])
 else Za (QN (e.2.2.2.2.1,[G],())) (none) fun d10=>
  Za (QN (e.2.2.2.2.2,[G],())) (none) fun d11=>
  some ((e.1,e.2.1,e.2.2.1,e.2.2.2.1,d10,d11),(false,[],[],[],0,0),[],[],[]):=by kernel_rfl
theorem ZXW (u:U) (t n:Int) (e:E) (l:List En) (c:C) (T X Y G N op nx el:Int):bF u t n e l c (11,T,X,Y,G,N,op,nx,el) =
 bif decide (0≤X) then
  Za e.2.1[Int.toNat X]? (none) fun d8=>
  bif decide (0≤Y) then
  Za e.2.1[Int.toNat Y]? (none) fun d9=>
  Za (ZX (op,d8,d9,())) (none) fun d10=>
  bif X==Y then
  Za (ZH (d10.1,d10.2.1,())) (none) fun d11=>
  bif decide (d11.1>d11.2) then
  Za (Q7 (op,())) (none) fun d12=>
  bif decide (0≤X) then
  Za e.2.1[Int.toNat X]? (none) fun d13=>
  bif decide (0≤Y) then
  Za e.2.1[Int.toNat Y]? (none) fun d14=>
  Za (ZX (d12,d13,d14,())) (none) fun d15=>
  bif X==Y then
  Za (ZH (d15.1,d15.2.1,())) (none) fun d16=>
  bif decide (d16.1>d16.2) then
  some ((false,[],[],[],0,0),(false,[],[],[],0,0),[],[],[])
 else bif decide (d16.1>d16.2) then
  some ((false,[],[],[],0,0),(false,[],[],[],0,0),[],[],[])
 else bif decide (((List.length (α:=I) [])+List.length e.2.1+1)*16≤lim) then
  bif decide (0≤X) then
  Za ([]++e.2.1)[Int.toNat X]? (none) fun d17=>
  Za ([]++e.2.1)[Int.toNat X]? (none) fun d18=>
  bif decide (0≤Y) then
  Za (([]++e.2.1).set (Int.toNat X) d16)[Int.toNat Y]? (none) fun d19=>
  Za (([]++e.2.1).set (Int.toNat X) d16)[Int.toNat Y]? (none) fun d20=>
  some ((false,[],[],[],0,0),(e.1,(([]++e.2.1).set (Int.toNat X) d16).set (Int.toNat Y) d16,e.2.2.1,e.2.2.2.1,e.2.2.2.2.1,e.2.2.2.2.2),[],[],[])
 else none
 else none
 else none
 else bif decide (d15.1.1>d15.1.2) then
  some ((false,[],[],[],0,0),(false,[],[],[],0,0),[],[],[])
 else bif decide (d15.2.1.1>d15.2.1.2) then
  some ((false,[],[],[],0,0),(false,[],[],[],0,0),[],[],[])
 else bif decide (((List.length (α:=I) [])+List.length e.2.1+1)*16≤lim) then
  bif decide (0≤X) then
  Za ([]++e.2.1)[Int.toNat X]? (none) fun d16=>
  Za ([]++e.2.1)[Int.toNat X]? (none) fun d17=>
  bif decide (0≤Y) then
  Za (([]++e.2.1).set (Int.toNat X) d15.1)[Int.toNat Y]? (none) fun d18=>
  Za (([]++e.2.1).set (Int.toNat X) d15.1)[Int.toNat Y]? (none) fun d19=>
  some ((false,[],[],[],0,0),(e.1,(([]++e.2.1).set (Int.toNat X) d15.1).set (Int.toNat Y) d15.2.1,e.2.2.1,e.2.2.2.1,e.2.2.2.2.1,e.2.2.2.2.2),[],[],[])
 else none
 else none
 else none
 else none
 else none
 else bif decide (d11.1>d11.2) then
  Za (Q7 (op,())) (none) fun d12=>
  bif decide (0≤X) then
  Za e.2.1[Int.toNat X]? (none) fun d13=>
  bif decide (0≤Y) then
  Za e.2.1[Int.toNat Y]? (none) fun d14=>
  Za (ZX (d12,d13,d14,())) (none) fun d15=>
  bif X==Y then
  Za (ZH (d15.1,d15.2.1,())) (none) fun d16=>
  bif decide (d16.1>d16.2) then
  some ((false,[],[],[],0,0),(false,[],[],[],0,0),[],[],[])
 else bif decide (d16.1>d16.2) then
  some ((false,[],[],[],0,0),(false,[],[],[],0,0),[],[],[])
 else bif decide (((List.length (α:=I) [])+List.length e.2.1+1)*16≤lim) then
  bif decide (0≤X) then
  Za ([]++e.2.1)[Int.toNat X]? (none) fun d17=>
  Za ([]++e.2.1)[Int.toNat X]? (none) fun d18=>
  bif decide (0≤Y) then
  Za (([]++e.2.1).set (Int.toNat X) d16)[Int.toNat Y]? (none) fun d19=>
  Za (([]++e.2.1).set (Int.toNat X) d16)[Int.toNat Y]? (none) fun d20=>
  some ((false,[],[],[],0,0),(e.1,(([]++e.2.1).set (Int.toNat X) d16).set (Int.toNat Y) d16,e.2.2.1,e.2.2.2.1,e.2.2.2.2.1,e.2.2.2.2.2),[],[],[])
 else none
 else none
 else none
 else bif decide (d15.1.1>d15.1.2) then
  some ((false,[],[],[],0,0),(false,[],[],[],0,0),[],[],[])
 else bif decide (d15.2.1.1>d15.2.1.2) then
  some ((false,[],[],[],0,0),(false,[],[],[],0,0),[],[],[])
 else bif decide (((List.length (α:=I) [])+List.length e.2.1+1)*16≤lim) then
  bif decide (0≤X) then
  Za ([]++e.2.1)[Int.toNat X]? (none) fun d16=>
  Za ([]++e.2.1)[Int.toNat X]? (none) fun d17=>
  bif decide (0≤Y) then
  Za (([]++e.2.1).set (Int.toNat X) d15.1)[Int.toNat Y]? (none) fun d18=>
  Za (([]++e.2.1).set (Int.toNat X) d15.1)[Int.toNat Y]? (none) fun d19=>
  some ((false,[],[],[],0,0),(e.1,(([]++e.2.1).set (Int.toNat X) d15.1).set (Int.toNat Y) d15.2.1,e.2.2.1,e.2.2.2.1,e.2.2.2.2.1,e.2.2.2.2.2),[],[],[])
 else none
 else none
 else none
 else none
 else none
 else bif decide (((List.length (α:=I) [])+List.length e.2.1+1)*16≤lim) then
  bif decide (0≤X) then
  Za ([]++e.2.1)[Int.toNat X]? (none) fun d12=>
  Za ([]++e.2.1)[Int.toNat X]? (none) fun d13=>
  bif decide (0≤Y) then
  Za (([]++e.2.1).set (Int.toNat X) d11)[Int.toNat Y]? (none) fun d14=>
  Za (([]++e.2.1).set (Int.toNat X) d11)[Int.toNat Y]? (none) fun d15=>
  Za (Q7 (op,())) (none) fun d16=>
  bif decide (0≤X) then
  Za e.2.1[Int.toNat X]? (none) fun d17=>
  bif decide (0≤Y) then
  Za e.2.1[Int.toNat Y]? (none) fun d18=>
  Za (ZX (d16,d17,d18,())) (none) fun d19=>
  bif X==Y then
  Za (ZH (d19.1,d19.2.1,())) (none) fun d20=>
  bif decide (d20.1>d20.2) then
  some ((e.1,(([]++e.2.1).set (Int.toNat X) d11).set (Int.toNat Y) d11,e.2.2.1,e.2.2.2.1,e.2.2.2.2.1,e.2.2.2.2.2),(false,[],[],[],0,0),[],[],[])
 else bif decide (d20.1>d20.2) then
  some ((e.1,(([]++e.2.1).set (Int.toNat X) d11).set (Int.toNat Y) d11,e.2.2.1,e.2.2.2.1,e.2.2.2.2.1,e.2.2.2.2.2),(false,[],[],[],0,0),[],[],[])
 else bif decide (((List.length (α:=I) [])+List.length e.2.1+1)*16≤lim) then
  bif decide (0≤X) then
  Za ([]++e.2.1)[Int.toNat X]? (none) fun d21=>
  Za ([]++e.2.1)[Int.toNat X]? (none) fun d22=>
  bif decide (0≤Y) then
  Za (([]++e.2.1).set (Int.toNat X) d20)[Int.toNat Y]? (none) fun d23=>
  Za (([]++e.2.1).set (Int.toNat X) d20)[Int.toNat Y]? (none) fun d24=>
  some ((e.1,(([]++e.2.1).set (Int.toNat X) d11).set (Int.toNat Y) d11,e.2.2.1,e.2.2.2.1,e.2.2.2.2.1,e.2.2.2.2.2),(e.1,(([]++e.2.1).set (Int.toNat X) d20).set (Int.toNat Y) d20,e.2.2.1,e.2.2.2.1,e.2.2.2.2.1,e.2.2.2.2.2),[],[],[])
 else none
 else none
 else none
 else bif decide (d19.1.1>d19.1.2) then
  some ((e.1,(([]++e.2.1).set (Int.toNat X) d11).set (Int.toNat Y) d11,e.2.2.1,e.2.2.2.1,e.2.2.2.2.1,e.2.2.2.2.2),(false,[],[],[],0,0),[],[],[])
 else bif decide (d19.2.1.1>d19.2.1.2) then
  some ((e.1,(([]++e.2.1).set (Int.toNat X) d11).set (Int.toNat Y) d11,e.2.2.1,e.2.2.2.1,e.2.2.2.2.1,e.2.2.2.2.2),(false,[],[],[],0,0),[],[],[])
 else bif decide (((List.length (α:=I) [])+List.length e.2.1+1)*16≤lim) then
  bif decide (0≤X) then
  Za ([]++e.2.1)[Int.toNat X]? (none) fun d20=>
  Za ([]++e.2.1)[Int.toNat X]? (none) fun d21=>
  bif decide (0≤Y) then
  Za (([]++e.2.1).set (Int.toNat X) d19.1)[Int.toNat Y]? (none) fun d22=>
  Za (([]++e.2.1).set (Int.toNat X) d19.1)[Int.toNat Y]? (none) fun d23=>
  some ((e.1,(([]++e.2.1).set (Int.toNat X) d11).set (Int.toNat Y) d11,e.2.2.1,e.2.2.2.1,e.2.2.2.2.1,e.2.2.2.2.2),(e.1,(([]++e.2.1).set (Int.toNat X) d19.1).set (Int.toNat Y) d19.2.1,e.2.2.1,e.2.2.2.1,e.2.2.2.2.1,e.2.2.2.2.2),[],[],[])
 else none
 else none
 else none
 else none
 else none
 else none
 else none
 else none
 else bif decide (d10.1.1>d10.1.2) then
  Za (Q7 (op,())) (none) fun d11=>
  bif decide (0≤X) then
  Za e.2.1[Int.toNat X]? (none) fun d12=>
  bif decide (0≤Y) then
  Za e.2.1[Int.toNat Y]? (none) fun d13=>
  Za (ZX (d11,d12,d13,())) (none) fun d14=>
  bif X==Y then
  Za (ZH (d14.1,d14.2.1,())) (none) fun d15=>
  bif decide (d15.1>d15.2) then
  some ((false,[],[],[],0,0),(false,[],[],[],0,0),[],[],[])
 else bif decide (d15.1>d15.2) then
  some ((false,[],[],[],0,0),(false,[],[],[],0,0),[],[],[])
 else bif decide (((List.length (α:=I) [])+List.length e.2.1+1)*16≤lim) then
  bif decide (0≤X) then
  Za ([]++e.2.1)[Int.toNat X]? (none) fun d16=>
  Za ([]++e.2.1)[Int.toNat X]? (none) fun d17=>
  bif decide (0≤Y) then
  Za (([]++e.2.1).set (Int.toNat X) d15)[Int.toNat Y]? (none) fun d18=>
  Za (([]++e.2.1).set (Int.toNat X) d15)[Int.toNat Y]? (none) fun d19=>
  some ((false,[],[],[],0,0),(e.1,(([]++e.2.1).set (Int.toNat X) d15).set (Int.toNat Y) d15,e.2.2.1,e.2.2.2.1,e.2.2.2.2.1,e.2.2.2.2.2),[],[],[])
 else none
 else none
 else none
 else bif decide (d14.1.1>d14.1.2) then
  some ((false,[],[],[],0,0),(false,[],[],[],0,0),[],[],[])
 else bif decide (d14.2.1.1>d14.2.1.2) then
  some ((false,[],[],[],0,0),(false,[],[],[],0,0),[],[],[])
 else bif decide (((List.length (α:=I) [])+List.length e.2.1+1)*16≤lim) then
  bif decide (0≤X) then
  Za ([]++e.2.1)[Int.toNat X]? (none) fun d15=>
  Za ([]++e.2.1)[Int.toNat X]? (none) fun d16=>
  bif decide (0≤Y) then
  Za (([]++e.2.1).set (Int.toNat X) d14.1)[Int.toNat Y]? (none) fun d17=>
  Za (([]++e.2.1).set (Int.toNat X) d14.1)[Int.toNat Y]? (none) fun d18=>
  some ((false,[],[],[],0,0),(e.1,(([]++e.2.1).set (Int.toNat X) d14.1).set (Int.toNat Y) d14.2.1,e.2.2.1,e.2.2.2.1,e.2.2.2.2.1,e.2.2.2.2.2),[],[],[])
 else none
 else none
 else none
 else none
 else none
 else bif decide (d10.2.1.1>d10.2.1.2) then
  Za (Q7 (op,())) (none) fun d11=>
  bif decide (0≤X) then
  Za e.2.1[Int.toNat X]? (none) fun d12=>
  bif decide (0≤Y) then
  Za e.2.1[Int.toNat Y]? (none) fun d13=>
  Za (ZX (d11,d12,d13,())) (none) fun d14=>
  bif X==Y then
  Za (ZH (d14.1,d14.2.1,())) (none) fun d15=>
  bif decide (d15.1>d15.2) then
  some ((false,[],[],[],0,0),(false,[],[],[],0,0),[],[],[])
 else bif decide (d15.1>d15.2) then
  some ((false,[],[],[],0,0),(false,[],[],[],0,0),[],[],[])
 else bif decide (((List.length (α:=I) [])+List.length e.2.1+1)*16≤lim) then
  bif decide (0≤X) then
  Za ([]++e.2.1)[Int.toNat X]? (none) fun d16=>
  Za ([]++e.2.1)[Int.toNat X]? (none) fun d17=>
  bif decide (0≤Y) then
  Za (([]++e.2.1).set (Int.toNat X) d15)[Int.toNat Y]? (none) fun d18=>
  Za (([]++e.2.1).set (Int.toNat X) d15)[Int.toNat Y]? (none) fun d19=>
  some ((false,[],[],[],0,0),(e.1,(([]++e.2.1).set (Int.toNat X) d15).set (Int.toNat Y) d15,e.2.2.1,e.2.2.2.1,e.2.2.2.2.1,e.2.2.2.2.2),[],[],[])
 else none
 else none
 else none
 else bif decide (d14.1.1>d14.1.2) then
  some ((false,[],[],[],0,0),(false,[],[],[],0,0),[],[],[])
 else bif decide (d14.2.1.1>d14.2.1.2) then
  some ((false,[],[],[],0,0),(false,[],[],[],0,0),[],[],[])
 else bif decide (((List.length (α:=I) [])+List.length e.2.1+1)*16≤lim) then
  bif decide (0≤X) then
  Za ([]++e.2.1)[Int.toNat X]? (none) fun d15=>
  Za ([]++e.2.1)[Int.toNat X]? (none) fun d16=>
  bif decide (0≤Y) then
  Za (([]++e.2.1).set (Int.toNat X) d14.1)[Int.toNat Y]? (none) fun d17=>
  Za (([]++e.2.1).set (Int.toNat X) d14.1)[Int.toNat Y]? (none) fun d18=>
  some ((false,[],[],[],0,0),(e.1,(([]++e.2.1).set (Int.toNat X) d14.1).set (Int.toNat Y) d14.2.1,e.2.2.1,e.2.2.2.1,e.2.2.2.2.1,e.2.2.2.2.2),[],[],[])
 else none
 else none
 else none
 else none
 else none
 else bif decide (((List.length (α:=I) [])+List.length e.2.1+1)*16≤lim) then
  bif decide (0≤X) then
  Za ([]++e.2.1)[Int.toNat X]? (none) fun d11=>
  Za ([]++e.2.1)[Int.toNat X]? (none) fun d12=>
  bif decide (0≤Y) then
  Za (([]++e.2.1).set (Int.toNat X) d10.1)[Int.toNat Y]? (none) fun d13=>
  Za (([]++e.2.1).set (Int.toNat X) d10.1)[Int.toNat Y]? (none) fun d14=>
  Za (Q7 (op,())) (none) fun d15=>
  bif decide (0≤X) then
  Za e.2.1[Int.toNat X]? (none) fun d16=>
  bif decide (0≤Y) then
  Za e.2.1[Int.toNat Y]? (none) fun d17=>
  Za (ZX (d15,d16,d17,())) (none) fun d18=>
  bif X==Y then
  Za (ZH (d18.1,d18.2.1,())) (none) fun d19=>
  bif decide (d19.1>d19.2) then
  some ((e.1,(([]++e.2.1).set (Int.toNat X) d10.1).set (Int.toNat Y) d10.2.1,e.2.2.1,e.2.2.2.1,e.2.2.2.2.1,e.2.2.2.2.2),(false,[],[],[],0,0),[],[],[])
 else bif decide (d19.1>d19.2) then
  some ((e.1,(([]++e.2.1).set (Int.toNat X) d10.1).set (Int.toNat Y) d10.2.1,e.2.2.1,e.2.2.2.1,e.2.2.2.2.1,e.2.2.2.2.2),(false,[],[],[],0,0),[],[],[])
 else bif decide (((List.length (α:=I) [])+List.length e.2.1+1)*16≤lim) then
  bif decide (0≤X) then
  Za ([]++e.2.1)[Int.toNat X]? (none) fun d20=>
  Za ([]++e.2.1)[Int.toNat X]? (none) fun d21=>
  bif decide (0≤Y) then
  Za (([]++e.2.1).set (Int.toNat X) d19)[Int.toNat Y]? (none) fun d22=>
  Za (([]++e.2.1).set (Int.toNat X) d19)[Int.toNat Y]? (none) fun d23=>
  some ((e.1,(([]++e.2.1).set (Int.toNat X) d10.1).set (Int.toNat Y) d10.2.1,e.2.2.1,e.2.2.2.1,e.2.2.2.2.1,e.2.2.2.2.2),(e.1,(([]++e.2.1).set (Int.toNat X) d19).set (Int.toNat Y) d19,e.2.2.1,e.2.2.2.1,e.2.2.2.2.1,e.2.2.2.2.2),[],[],[])
 else none
 else none
 else none
 else bif decide (d18.1.1>d18.1.2) then
  some ((e.1,(([]++e.2.1).set (Int.toNat X) d10.1).set (Int.toNat Y) d10.2.1,e.2.2.1,e.2.2.2.1,e.2.2.2.2.1,e.2.2.2.2.2),(false,[],[],[],0,0),[],[],[])
 else bif decide (d18.2.1.1>d18.2.1.2) then
  some ((e.1,(([]++e.2.1).set (Int.toNat X) d10.1).set (Int.toNat Y) d10.2.1,e.2.2.1,e.2.2.2.1,e.2.2.2.2.1,e.2.2.2.2.2),(false,[],[],[],0,0),[],[],[])
 else bif decide (((List.length (α:=I) [])+List.length e.2.1+1)*16≤lim) then
  bif decide (0≤X) then
  Za ([]++e.2.1)[Int.toNat X]? (none) fun d19=>
  Za ([]++e.2.1)[Int.toNat X]? (none) fun d20=>
  bif decide (0≤Y) then
  Za (([]++e.2.1).set (Int.toNat X) d18.1)[Int.toNat Y]? (none) fun d21=>
  Za (([]++e.2.1).set (Int.toNat X) d18.1)[Int.toNat Y]? (none) fun d22=>
  some ((e.1,(([]++e.2.1).set (Int.toNat X) d10.1).set (Int.toNat Y) d10.2.1,e.2.2.1,e.2.2.2.1,e.2.2.2.2.1,e.2.2.2.2.2),(e.1,(([]++e.2.1).set (Int.toNat X) d18.1).set (Int.toNat Y) d18.2.1,e.2.2.1,e.2.2.2.1,e.2.2.2.2.1,e.2.2.2.2.2),[],[],[])
 else none
 else none
 else none
 else none
 else none
 else none
 else none
 else none
 else none
 else none:=by kernel_rfl
theorem Z3Z (u:U) (t n:Int) (e:E) (l:List En) (c:C) (T X Y G N op nx el:Int):bF u t n e l c (12,T,X,Y,G,N,op,nx,el) =
 some ((e.1,e.2.1,e.2.2.1,e.2.2.2.1,e.2.2.2.2.1,e.2.2.2.2.2),(false,[],[],[],0,0),[],[],[]):=by kernel_rfl
theorem Z30 (u:U) (t n:Int) (e:E) (l:List En) (c:C) (T X Y G N op nx el:Int):bF u t n e l c (13,T,X,Y,G,N,op,nx,el) =
 some ((false,[],[],[],0,0),(false,[],[],[],0,0),[10],[],[]):=by kernel_rfl
theorem Z31 (u:U) (t n:Int) (e:E) (l:List En) (c:C) (T X Y G N op nx el:Int):bF u t n e l c (14,T,X,Y,G,N,op,nx,el) =
 some ((false,[],[],[],0,0),(false,[],[],[],0,0),[],[],[]):=by kernel_rfl
theorem Z5V (u:U) (t n:Int) (e:E) (l:List En) (c:C) (a:A) (h0:0≤t) (hc:u.2.2.2[t.toNat]? = some c) (h1:0≤n) (ha:c.2[n.toNat]? = some a) (he:e.1=true):ZnD u t n e l=bR u t n e l c a:=by
 have e0:decide (0≤t)=true:=dT0 h0
 have e1:decide (0≤n)=true:=dT0 h1
 have e2:(!e.1)=false:=by rw [he];rfl
 unfold ZnD
 rw [e0,hc,e1,e2,cond_true,cond_false,Zb,cond_true,ha,Zb]
theorem R_1 (u:U) (t n:Int) (e:E) (l:List En) (c:C) (T X Y G N op nx el:Int):bR u t n e l c (1,T,X,Y,G,N,op,nx,el) =
 Za (Zw (e,T,(N,N),())) (none) fun d8=>
  some ((d8.1,d8.2.1,d8.2.2.1,d8.2.2.2.1,d8.2.2.2.2.1,d8.2.2.2.2.2),(false,[],[],[],0,0),[],[],[]):=by kernel_rfl
theorem R_2 (u:U) (t n:Int) (e:E) (l:List En) (c:C) (T X Y G N op nx el:Int):bR u t n e l c (2,T,X,Y,G,N,op,nx,el) =
 bif decide (0≤X) then
  Za e.2.1[Int.toNat X]? (none) fun d8=>
  Za (Zw (e,T,d8,())) (none) fun d9=>
  some ((d9.1,d9.2.1,d9.2.2.1,d9.2.2.2.1,d9.2.2.2.2.1,d9.2.2.2.2.2),(false,[],[],[],0,0),[],[],[])
 else none:=by kernel_rfl
theorem R_3 (u:U) (t n:Int) (e:E) (l:List En) (c:C) (T X Y G N op nx el:Int):bR u t n e l c (3,T,X,Y,G,N,op,nx,el) =
 Za (Zw (e,T,(-2147483648,2147483647),())) (none) fun d8=>
  some ((d8.1,d8.2.1,d8.2.2.1,d8.2.2.2.1,d8.2.2.2.2.1,d8.2.2.2.2.2),(false,[],[],[],0,0),[],[],[]):=by kernel_rfl
theorem R_4 (u:U) (t n:Int) (e:E) (l:List En) (c:C) (T X Y G N op nx el:Int):bR u t n e l c (4,T,X,Y,G,N,op,nx,el) =
 Za (Zp1 ((4,T,X,Y,G,N,op,nx,el),e,())) (none) fun d8=>
  bif decide (0<(↑(List.length d8.2.2.2.2):Int)) then
  Za d8.2.2.2.2[Int.toNat 0]? (none) fun d9=>
  none
 else some ((d8.1.1,d8.1.2.1,d8.1.2.2.1,d8.1.2.2.2.1,d8.1.2.2.2.2.1,d8.1.2.2.2.2.2),(d8.2.1.1,d8.2.1.2.1,d8.2.1.2.2.1,d8.2.1.2.2.2.1,d8.2.1.2.2.2.2.1,d8.2.1.2.2.2.2.2),d8.2.2.1,d8.2.2.2.1,d8.2.2.2.2):=by kernel_rfl
theorem R_5 (u:U) (t n:Int) (e:E) (l:List En) (c:C) (T X Y G N op nx el:Int):bR u t n e l c (5,T,X,Y,G,N,op,nx,el) =
 Za (Qm (t,e,l,false,G,())) (none) fun d8=>
  Za (Zw (e,T,d8,())) (none) fun d9=>
  some ((d9.1,d9.2.1,d9.2.2.1,d9.2.2.2.1,d9.2.2.2.2.1,d9.2.2.2.2.2),(false,[],[],[],0,0),[],[],[(t,n,false,G,false,e.2.2.2.2.1)]):=by kernel_rfl
theorem R_6 (u:U) (t n:Int) (e:E) (l:List En) (c:C) (T X Y G N op nx el:Int):bR u t n e l c (6,T,X,Y,G,N,op,nx,el) =
 bif decide (((List.length (α:=I) [])+List.length e.2.2.1+1)*16≤lim) then
  bif decide (0≤X) then
  Za e.2.1[Int.toNat X]? (none) fun d8=>
  bif decide (0≤G) then
  Za ([]++e.2.2.1)[Int.toNat G]? (none) fun d9=>
  Za ([]++e.2.2.1)[Int.toNat G]? (none) fun d10=>
  bif decide (0≤X) then
  Za e.2.1[Int.toNat X]? (none) fun d11=>
  some ((e.1,e.2.1,([]++e.2.2.1).set (Int.toNat G) d8,e.2.2.2.1,e.2.2.2.2.1,e.2.2.2.2.2),(false,[],[],[],0,0),[],[(t,false,G,e.2.2.2.2.1,d11.1,d11.2)],[(t,n,false,G,true,e.2.2.2.2.1)])
 else none
 else none
 else none
 else none:=by kernel_rfl
theorem R_7 (u:U) (t n:Int) (e:E) (l:List En) (c:C) (T X Y G N op nx el:Int):bR u t n e l c (7,T,X,Y,G,N,op,nx,el) =
 bif decide (0≤G) then
  Za u.2.1[Int.toNat G]? (none) fun d8=>
  bif decide (0≤X) then
  Za e.2.1[Int.toNat X]? (none) fun d9=>
  Za (JX (d9,(0,IntKind.i64.wrap (d8 - 1)),())) (none) fun d10=>
  bif !d10 then
  Za (ZY (d9,(0,IntKind.i64.wrap (d8 - 1)),())) (none) fun d11=>
  bif decide (d11.1>d11.2) then
  some ((false,[],[],[],0,0),(false,[],[],[],0,0),[9],[],[(t,n,true,G,7==8,e.2.2.2.2.1)])
 else Za (Zw (e,X,d11,())) (none) fun d12=>
  Za (Qm (t,d12,l,true,G,())) (none) fun d13=>
  Za (Zw (d12,T,d13,())) (none) fun d14=>
  some ((d14.1,d14.2.1,d14.2.2.1,d14.2.2.2.1,d14.2.2.2.2.1,d14.2.2.2.2.2),(false,[],[],[],0,0),[9],[],[(t,n,true,G,7==8,e.2.2.2.2.1)])
 else Za (ZY (d9,(0,IntKind.i64.wrap (d8 - 1)),())) (none) fun d11=>
  bif decide (d11.1>d11.2) then
  some ((false,[],[],[],0,0),(false,[],[],[],0,0),[],[],[(t,n,true,G,7==8,e.2.2.2.2.1)])
 else Za (Zw (e,X,d11,())) (none) fun d12=>
  Za (Qm (t,d12,l,true,G,())) (none) fun d13=>
  Za (Zw (d12,T,d13,())) (none) fun d14=>
  some ((d14.1,d14.2.1,d14.2.2.1,d14.2.2.2.1,d14.2.2.2.2.1,d14.2.2.2.2.2),(false,[],[],[],0,0),[],[],[(t,n,true,G,7==8,e.2.2.2.2.1)])
 else none
 else none:=by kernel_rfl
theorem R_8 (u:U) (t n:Int) (e:E) (l:List En) (c:C) (T X Y G N op nx el:Int):bR u t n e l c (8,T,X,Y,G,N,op,nx,el) =
 bif decide (0≤G) then
  Za u.2.1[Int.toNat G]? (none) fun d8=>
  bif decide (0≤X) then
  Za e.2.1[Int.toNat X]? (none) fun d9=>
  Za (JX (d9,(0,IntKind.i64.wrap (d8 - 1)),())) (none) fun d10=>
  bif !d10 then
  Za (ZY (d9,(0,IntKind.i64.wrap (d8 - 1)),())) (none) fun d11=>
  bif decide (0≤Y) then
  Za e.2.1[Int.toNat Y]? (none) fun d12=>
  bif decide (d11.1>d11.2) then
  some ((false,[],[],[],0,0),(false,[],[],[],0,0),[9],[(t,true,G,e.2.2.2.2.1,d12.1,d12.2)],[(t,n,true,G,8==8,e.2.2.2.2.1)])
 else Za (Zw (e,X,d11,())) (none) fun d13=>
  bif decide (((List.length (α:=I) [])+List.length d13.2.2.2.1+1)*16≤lim) then
  bif decide (0≤G) then
  Za ([]++d13.2.2.2.1)[Int.toNat G]? (none) fun d14=>
  Za ([]++d13.2.2.2.1)[Int.toNat G]? (none) fun d15=>
  bif decide (0≤Y) then
  Za d13.2.1[Int.toNat Y]? (none) fun d16=>
  Za (Zz (d15,d16,())) (none) fun d17=>
  bif decide (0≤G) then
  Za ([]++d13.2.2.2.1)[Int.toNat G]? (none) fun d18=>
  Za ([]++d13.2.2.2.1)[Int.toNat G]? (none) fun d19=>
  some ((d13.1,d13.2.1,d13.2.2.1,([]++d13.2.2.2.1).set (Int.toNat G) d17,d13.2.2.2.2.1,d13.2.2.2.2.2),(false,[],[],[],0,0),[9],[(t,true,G,e.2.2.2.2.1,d12.1,d12.2)],[(t,n,true,G,8==8,e.2.2.2.2.1)])
 else none
 else none
 else none
 else none
 else none
 else Za (ZY (d9,(0,IntKind.i64.wrap (d8 - 1)),())) (none) fun d11=>
  bif decide (0≤Y) then
  Za e.2.1[Int.toNat Y]? (none) fun d12=>
  bif decide (d11.1>d11.2) then
  some ((false,[],[],[],0,0),(false,[],[],[],0,0),[],[(t,true,G,e.2.2.2.2.1,d12.1,d12.2)],[(t,n,true,G,8==8,e.2.2.2.2.1)])
 else Za (Zw (e,X,d11,())) (none) fun d13=>
  bif decide (((List.length (α:=I) [])+List.length d13.2.2.2.1+1)*16≤lim) then
  bif decide (0≤G) then
  Za ([]++d13.2.2.2.1)[Int.toNat G]? (none) fun d14=>
  Za ([]++d13.2.2.2.1)[Int.toNat G]? (none) fun d15=>
  bif decide (0≤Y) then
  Za d13.2.1[Int.toNat Y]? (none) fun d16=>
  Za (Zz (d15,d16,())) (none) fun d17=>
  bif decide (0≤G) then
  Za ([]++d13.2.2.2.1)[Int.toNat G]? (none) fun d18=>
  Za ([]++d13.2.2.2.1)[Int.toNat G]? (none) fun d19=>
  some ((d13.1,d13.2.1,d13.2.2.1,([]++d13.2.2.2.1).set (Int.toNat G) d17,d13.2.2.2.2.1,d13.2.2.2.2.2),(false,[],[],[],0,0),[],[(t,true,G,e.2.2.2.2.1,d12.1,d12.2)],[(t,n,true,G,8==8,e.2.2.2.2.1)])
 else none
 else none
 else none
 else none
 else none
 else none
 else none:=by kernel_rfl
theorem R_9 (u:U) (t n:Int) (e:E) (l:List En) (c:C) (T X Y G N op nx el:Int):bR u t n e l c (9,T,X,Y,G,N,op,nx,el) =
 Za (ZmJ (t,(9,T,X,Y,G,N,op,nx,el),e,l,())) (none) fun d8=>
  bif decide (0<(↑(List.length d8.2.2.2.2):Int)) then
  Za d8.2.2.2.2[Int.toNat 0]? (none) fun d9=>
  none
 else some ((d8.1.1,d8.1.2.1,d8.1.2.2.1,d8.1.2.2.2.1,d8.1.2.2.2.2.1,d8.1.2.2.2.2.2),(d8.2.1.1,d8.2.1.2.1,d8.2.1.2.2.1,d8.2.1.2.2.2.1,d8.2.1.2.2.2.2.1,d8.2.1.2.2.2.2.2),d8.2.2.1,d8.2.2.2.1,d8.2.2.2.2):=by kernel_rfl
theorem Z6w (u:U) (t n:Int) (e:E) (l:List En) (c:C) (T X Y G N op nx el:Int):bR u t n e l c (10,T,X,Y,G,N,op,nx,el) =
 Za (Zjj ((10,T,X,Y,G,N,op,nx,el),e,())) (none) fun d8=>
  bif decide (0<(↑(List.length d8.2.2.2.2):Int)) then
  Za d8.2.2.2.2[Int.toNat 0]? (none) fun d9=>
  none
 else some ((d8.1.1,d8.1.2.1,d8.1.2.2.1,d8.1.2.2.2.1,d8.1.2.2.2.2.1,d8.1.2.2.2.2.2),(d8.2.1.1,d8.2.1.2.1,d8.2.1.2.2.1,d8.2.1.2.2.2.1,d8.2.1.2.2.2.2.1,d8.2.1.2.2.2.2.2),d8.2.2.1,d8.2.2.2.1,d8.2.2.2.2):=by kernel_rfl
theorem Z32 (u:U) (t n:Int) (e:E) (l:List En) (c:C) (T X Y G N op nx el:Int):bR u t n e l c (11,T,X,Y,G,N,op,nx,el) =
 Za (ZcA ((11,T,X,Y,G,N,op,nx,el),e,op,())) (none) fun d8=>
  Za (Zny (op,())) (none) fun d9=>
  Za (ZcA ((11,T,X,Y,G,N,op,nx,el),e,d9,())) (none) fun d10=>
  some ((d8.1,d8.2.1,d8.2.2.1,d8.2.2.2.1,d8.2.2.2.2.1,d8.2.2.2.2.2),(d10.1,d10.2.1,d10.2.2.1,d10.2.2.2.1,d10.2.2.2.2.1,d10.2.2.2.2.2),[],[],[]):=by kernel_rfl
theorem Z6x (u:U) (t n:Int) (e:E) (l:List En) (c:C) (T X Y G N op nx el:Int):bR u t n e l c (12,T,X,Y,G,N,op,nx,el) =
 some ((e.1,e.2.1,e.2.2.1,e.2.2.2.1,e.2.2.2.2.1,e.2.2.2.2.2),(false,[],[],[],0,0),[],[],[]):=by kernel_rfl
theorem Z6y (u:U) (t n:Int) (e:E) (l:List En) (c:C) (T X Y G N op nx el:Int):bR u t n e l c (13,T,X,Y,G,N,op,nx,el) =
 some ((false,[],[],[],0,0),(false,[],[],[],0,0),[10],[],[]):=by kernel_rfl
theorem Z6z (u:U) (t n:Int) (e:E) (l:List En) (c:C) (T X Y G N op nx el:Int):bR u t n e l c (14,T,X,Y,G,N,op,nx,el) =
 some ((false,[],[],[],0,0),(false,[],[],[],0,0),[],[],[]):=by kernel_rfl
theorem Zkx (x y c d:I):(bif Zd x then some ((1,0),(1,0),()) else bif Zd y then some ((1,0),(1,0),()) else bif Zd c then some ((1,0),(1,0),()) else bif Zd d then some ((1,0),(1,0),()) else some (c,d,()):Option (I×I×Unit)) =
  some ((both x y c d).1,(both x y c d).2,()):=by
 unfold both
 cases Zd x<;>cases Zd y<;>cases Zd c<;>cases Zd d<;>rfl
theorem ZlF (x y c d:I):(bif Zd x then some ((1,0),(1,0),()) else bif Zd y then some ((1,0),(1,0),()) else bif Zd c then some ((1,0),(1,0),()) else bif Zd d then some ((1,0),(1,0),()) else some (c,d,()):Option (I×I×Unit)) =
  some ((rboth x y c d).1,(rboth x y c d).2,()):=Zkx x y c d
theorem ZEW (x y:I) (hx:isB x=true):ZuE x y=some (wout x y):=by
 obtain ⟨x1,x2⟩:=YX hx
 have w1:IntKind.i64.wrap (x.1+1)=x.1+1:=wr (by omega)
 have w2:IntKind.i64.wrap (x.2 - 1)=x.2 - 1:=wr (by omega)
 unfold ZuE wout
 simp only [w1,w2]
 by_cases h1:y.1=y.2
 ·rw [show (y.1 !=y.2)=false by simp [bne,h1],if_pos h1]
  by_cases h2:x.1=y.1
  ·rw [show (x.1==y.1)=true by simp [h2],if_pos h2];rfl
  ·rw [show (x.1==y.1)=false by simp [h2],if_neg h2]
   by_cases h3:x.2=y.1
   ·rw [show (x.2==y.1)=true by simp [h3],if_pos h3];rfl
   ·rw [show (x.2==y.1)=false by simp [h3],if_neg h3];rfl
 ·rw [show (y.1 !=y.2)=true by simp [bne,h1],if_neg h1];rfl
theorem ZIc (x y:I) (hx:isB x=true):Zw2 x y=some (oth x y):=by
 obtain ⟨x1,x2⟩:=YX hx
 have w1:IntKind.i64.wrap (x.1+1)=x.1+1:=wr (by omega)
 have w2:IntKind.i64.wrap (x.2 - 1)=x.2 - 1:=wr (by omega)
 unfold Zw2 oth Z3
 simp only [w1,w2,Ztg,Zb]
 by_cases h1:y.1=y.2
 ·rw [show (y.1 !=y.2)=false by simp [bne,h1],if_pos h1]
  by_cases h2:y.1=x.1
  ·rw [show (y.1==x.1)=true by simp [h2],if_pos h2]
   by_cases h3:y.1=x.2
   ·rw [show (y.1==x.2)=true by simp [h3],if_pos h3];rfl
   ·rw [show (y.1==x.2)=false by simp [h3],if_neg h3];rfl
  ·rw [show (y.1==x.1)=false by simp [h2],if_neg h2]
   by_cases h3:y.1=x.2
   ·rw [show (y.1==x.2)=true by simp [h3],if_pos h3];rfl
   ·rw [show (y.1==x.2)=false by simp [h3],if_neg h3];rfl
 ·rw [show (y.1 !=y.2)=true by simp [bne,h1],if_neg h1];rfl
theorem ZqL (r:Int) (x y:I) (hx:isB x=true) (hy:isB y=true):ZwX r x y=some ((refI r x y).1,(refI r x y).2,()):=by
 obtain ⟨x1,x2⟩:=YX hx
 obtain ⟨y1,y2⟩:=YX hy
 have w1:IntKind.i64.wrap (x.1+1)=x.1+1:=wr (by omega)
 have w2:IntKind.i64.wrap (x.2 - 1)=x.2 - 1:=wr (by omega)
 have w3:IntKind.i64.wrap (y.1+1)=y.1+1:=wr (by omega)
 have w4:IntKind.i64.wrap (y.2 - 1)=y.2 - 1:=wr (by omega)
 unfold ZwX refI
 simp only [w1,w2,w3,w4,ZfC,ZfD,ZH,W0,Zlh,ZEW x y hx,ZEW y x hy,Zb]
 by_cases o1:r=1
 ·subst o1;exact Zkx x y (x.1,mn x.2 (y.2 - 1)) (mx y.1 (x.1+1),y.2)
 by_cases o2:r=2
 ·subst o2;exact Zkx x y (x.1,mn x.2 y.2) (mx y.1 x.1,y.2)
 by_cases o5:r=5
 ·subst o5;exact Zkx x y (mx x.1 y.1,x.2) (y.1,mn y.2 x.2)
 by_cases o6:r=6
 ·subst o6;exact Zkx x y (mx x.1 (y.1+1),x.2) (y.1,mn y.2 (x.2 - 1))
 by_cases o3:r=3
 ·subst o3;exact Zkx x y (iMeet x y) (iMeet x y)
 by_cases o4:r=4
 ·subst o4;exact Zkx x y (wout x y) (wout y x)
 simp only [o1,o2,o3,o4,o5,o6,if_false,beq_eq_false_iff_ne.2 o1,beq_eq_false_iff_ne.2 o2,beq_eq_false_iff_ne.2 o3,beq_eq_false_iff_ne.2 o4,beq_eq_false_iff_ne.2 o5,beq_eq_false_iff_ne.2 o6,cond_false]
 rfl
theorem ZEY (r:Int) (x y:I) (hx:isB x=true) (hy:isB y=true):ZuI r x y=some ((refI r x y).1,(refI r x y).2,()):=by
 rw [Z4K]
 obtain ⟨x1,x2⟩:=YX hx
 obtain ⟨y1,y2⟩:=YX hy
 have w1:IntKind.i64.wrap (x.1+1)=x.1+1:=wr (by omega)
 have w2:IntKind.i64.wrap (x.2 - 1)=x.2 - 1:=wr (by omega)
 have w3:IntKind.i64.wrap (y.1+1)=y.1+1:=wr (by omega)
 have w4:IntKind.i64.wrap (y.2 - 1)=y.2 - 1:=wr (by omega)
 unfold ZuI rrefI
 simp only [w1,w2,w3,w4,ZfC,ZfD,ZY,Zfd,Z3,Ztg,ZmK,ZIc x y hx,ZIc y x hy,Zb]
 by_cases o1:r=1
 ·subst o1;exact ZlF x y (iSpan x.1 (mn x.2 (y.2 - 1))) (iSpan (mx y.1 (x.1+1)) y.2)
 by_cases o2:r=2
 ·subst o2;exact ZlF x y (iSpan x.1 (mn x.2 y.2)) (iSpan (mx y.1 x.1) y.2)
 by_cases o6:r=6
 ·subst o6;exact ZlF x y (iSpan (mx x.1 (y.1+1)) x.2) (iSpan y.1 (mn y.2 (x.2 - 1)))
 by_cases o5:r=5
 ·subst o5;exact ZlF x y (iSpan (mx x.1 y.1) x.2) (iSpan y.1 (mn y.2 x.2))
 by_cases o3:r=3
 ·subst o3;exact ZlF x y (mSpan x y) (mSpan x y)
 by_cases o4:r=4
 ·subst o4;exact ZlF x y (oth x y) (oth y x)
 simp only [o1,o2,o3,o4,o5,o6,if_false,beq_eq_false_iff_ne.2 o1,beq_eq_false_iff_ne.2 o2,beq_eq_false_iff_ne.2 o3,beq_eq_false_iff_ne.2 o4,beq_eq_false_iff_ne.2 o5,beq_eq_false_iff_ne.2 o6,cond_false]
 cases decide (x.1>x.2)<;>cases decide (y.1>y.2)<;>rfl
theorem look {α β:Type} {l:List α} {i:Nat} (h:i<l.length) (b:β) (n:β):Za l[i]? n (fun _=>b)=b:=by rw [List.getElem?_eq_getElem h];rfl
theorem limc {n:Nat} (h:n≤1000):decide ((n+1)*16≤lim)=true:=dT0 (by unfold lim;omega)
theorem Zy {k n:Int}:inB k n=true↔0≤k∧k<n:=by simp [inB]
theorem ZL {α:Type} (l:List α) (i:Int) (h:0≤i∧i<(l.length:Int)):∃ d,l[i.toNat]? = some d:=⟨l[i.toNat]'(by omega),List.getElem?_eq_getElem _⟩
theorem ZST (n:Int) (h:fitB n=true):Zo8 ([n],())=some (n,n):=ZZ5 n h
theorem exO {p q:Option O} {o:O} (h1:p=some o) (h2:q=some o) (h3:VN o):∃ o,p=some o∧q=some o∧VN o:=⟨o,h1,h2,h3⟩
theorem Z2F (x y c d:I):both x y c d=(nn,nn)∨(Zd (both x y c d).1=false∧Zd (both x y c d).2=false):=by
 unfold both
 cases Zd x
 ·cases Zd y
  ·cases h1:Zd c
   ·cases h2:Zd d
    ·exact .inr ⟨h1,h2⟩
    ·exact .inl rfl
   ·exact .inl rfl
  ·exact .inl rfl
 ·exact .inl rfl
theorem Z4L (r:Int) (x y:I):refI r x y=(nn,nn)∨(Zd (refI r x y).1=false∧Zd (refI r x y).2=false):=by
 unfold refI
 repeat' split
 all_goals first | exact Z2F .. | exact .inl rfl
theorem ZDA (r:Int) (x y:I):iMeet (refI r x y).1 (refI r x y).2=mSpan (refI r x y).1 (refI r x y).2:=by
 rcases Z4L r x y with h | h
 ·rw [h];decide
 ·exact Zfc h.1 h.2
theorem ZML (op:Int):∃ w,Ztz op=some w:=by
 unfold Ztz
 cases op==1<;>cases op==2<;>cases op==3<;>cases op==4<;>cases op==5<;>cases op==6<;>exact ⟨_,rfl⟩
theorem Z6C (u:U) (t n:Int) (e:E) (l:List En) (c:C) (T X Y G N op nx el:Int) (h0:0≤t) (hu:unitOK u) (hl:tabOK l) (hn:l.length≤1000) (he:envOK u t e) (hc:u.2.2.2[t.toNat]? = some c) (ha:actOK u c (1,T,X,Y,G,N,op,nx,el)):∃ o,bF u t n e l c (1,T,X,Y,G,N,op,nx,el)=some o∧bR u t n e l c (1,T,X,Y,G,N,op,nx,el)=some o∧VN o:=by
 obtain ⟨c',hc',hv⟩:=he.c
 obtain rfl:c'=c:=by rw [hc] at hc';exact (Option.some.inj hc').symm
 have cv:=(hu.ts c' (mG0 hc')).v
 have V0:e.2.1.length≤1000:=by omega
 have G0:e.2.2.1.length≤1000:=by rw [he.g];have:=hu.g;omega
 have A0:e.2.2.2.1.length≤1000:=by rw [he.a];have:=hu.a;omega
 have hE:=hl.e
 have hm:=he.must
 have hy:=he.may
 have hn':l.length<9223372036854775807:=by omega
 have hn2:l.length<1000000000000:=by omega
 have hT:0≤T∧T<c'.1:=Zy.1 ha.h1
 have eT:decide (0≤T)=true:=dT0 hT.1
 have lT:T.toNat<e.2.1.length:=by omega
 have hN:fitB N=true:=ha.n
 apply exO
 ·simp only [F_1,ZST N hN,List.nil_append,List.length_nil,Nat.zero_add,List.length_set,limc V0,limc G0,limc A0,cond_true,cond_false,Zb,Bool.not_true,Bool.not_false,eT,look lT]
  rfl
 ·(simp only [R_1,Zw,HV e T (N,N) hT.1 (by omega) V0,List.nil_append,List.length_nil,Nat.zero_add,List.length_set,limc V0,limc G0,limc A0,cond_true,cond_false,Zb,Bool.not_true,Bool.not_false])<;>rfl
 ·refine ⟨⟨?_,?_,?_⟩,⟨?_,?_,?_⟩,?_,?_,?_⟩<;>simp only [List.length_set,List.length_nil,List.length_cons,gmap,List.length_mapIdx]<;>omega
theorem Z6D (u:U) (t n:Int) (e:E) (l:List En) (c:C) (T X Y G N op nx el:Int) (h0:0≤t) (hu:unitOK u) (hl:tabOK l) (hn:l.length≤1000) (he:envOK u t e) (hc:u.2.2.2[t.toNat]? = some c) (ha:actOK u c (2,T,X,Y,G,N,op,nx,el)):∃ o,bF u t n e l c (2,T,X,Y,G,N,op,nx,el)=some o∧bR u t n e l c (2,T,X,Y,G,N,op,nx,el)=some o∧VN o:=by
 obtain ⟨c',hc',hv⟩:=he.c
 obtain rfl:c'=c:=by rw [hc] at hc';exact (Option.some.inj hc').symm
 have cv:=(hu.ts c' (mG0 hc')).v
 have V0:e.2.1.length≤1000:=by omega
 have G0:e.2.2.1.length≤1000:=by rw [he.g];have:=hu.g;omega
 have A0:e.2.2.2.1.length≤1000:=by rw [he.a];have:=hu.a;omega
 have hE:=hl.e
 have hm:=he.must
 have hy:=he.may
 have hn':l.length<9223372036854775807:=by omega
 have hn2:l.length<1000000000000:=by omega
 have hT:0≤T∧T<c'.1:=Zy.1 ha.h1
 have eT:decide (0≤T)=true:=dT0 hT.1
 have lT:T.toNat<e.2.1.length:=by omega
 have hX:0≤X∧X<c'.1:=Zy.1 ha.h2
 have eX:decide (0≤X)=true:=dT0 hX.1
 have lX:X.toNat<e.2.1.length:=by omega
 obtain ⟨x,gx⟩:=ZL e.2.1 X (by omega)
 have vx:=he.v x (List.mem_append_left _ (List.mem_append_left _ (mG0 gx)))
 apply exO
 ·simp only [F_2,gx,List.nil_append,List.length_nil,Nat.zero_add,List.length_set,limc V0,limc G0,limc A0,cond_true,cond_false,Zb,Bool.not_true,Bool.not_false,eT,eX,look lT]
  rfl
 ·(simp only [R_2,Zw,HV e T x hT.1 (by omega) V0,gx,eX,List.nil_append,List.length_nil,Nat.zero_add,List.length_set,limc V0,limc G0,limc A0,cond_true,cond_false,Zb,Bool.not_true,Bool.not_false])<;>rfl
 ·refine ⟨⟨?_,?_,?_⟩,⟨?_,?_,?_⟩,?_,?_,?_⟩<;>simp only [List.length_set,List.length_nil,List.length_cons,gmap,List.length_mapIdx]<;>omega
theorem Z6E (u:U) (t n:Int) (e:E) (l:List En) (c:C) (T X Y G N op nx el:Int) (h0:0≤t) (hu:unitOK u) (hl:tabOK l) (hn:l.length≤1000) (he:envOK u t e) (hc:u.2.2.2[t.toNat]? = some c) (ha:actOK u c (3,T,X,Y,G,N,op,nx,el)):∃ o,bF u t n e l c (3,T,X,Y,G,N,op,nx,el)=some o∧bR u t n e l c (3,T,X,Y,G,N,op,nx,el)=some o∧VN o:=by
 obtain ⟨c',hc',hv⟩:=he.c
 obtain rfl:c'=c:=by rw [hc] at hc';exact (Option.some.inj hc').symm
 have cv:=(hu.ts c' (mG0 hc')).v
 have V0:e.2.1.length≤1000:=by omega
 have G0:e.2.2.1.length≤1000:=by rw [he.g];have:=hu.g;omega
 have A0:e.2.2.2.1.length≤1000:=by rw [he.a];have:=hu.a;omega
 have hE:=hl.e
 have hm:=he.must
 have hy:=he.may
 have hn':l.length<9223372036854775807:=by omega
 have hn2:l.length<1000000000000:=by omega
 have hT:0≤T∧T<c'.1:=Zy.1 ha.h1
 have eT:decide (0≤T)=true:=dT0 hT.1
 have lT:T.toNat<e.2.1.length:=by omega
 apply exO
 ·simp only [F_3,List.nil_append,List.length_nil,Nat.zero_add,List.length_set,limc V0,limc G0,limc A0,cond_true,cond_false,Zb,Bool.not_true,Bool.not_false,eT,look lT]
  rfl
 ·(simp only [R_3,Zw,HV e T (-2147483648,2147483647) hT.1 (by omega) V0,List.nil_append,List.length_nil,Nat.zero_add,List.length_set,limc V0,limc G0,limc A0,cond_true,cond_false,Zb,Bool.not_true,Bool.not_false])<;>rfl
 ·refine ⟨⟨?_,?_,?_⟩,⟨?_,?_,?_⟩,?_,?_,?_⟩<;>simp only [List.length_set,List.length_nil,List.length_cons,gmap,List.length_mapIdx]<;>omega
theorem Z6G (u:U) (t n:Int) (e:E) (l:List En) (c:C) (T X Y G N op nx el:Int) (h0:0≤t) (hu:unitOK u) (hl:tabOK l) (hn:l.length≤1000) (he:envOK u t e) (hc:u.2.2.2[t.toNat]? = some c) (ha:actOK u c (5,T,X,Y,G,N,op,nx,el)):∃ o,bF u t n e l c (5,T,X,Y,G,N,op,nx,el)=some o∧bR u t n e l c (5,T,X,Y,G,N,op,nx,el)=some o∧VN o:=by
 obtain ⟨c',hc',hv⟩:=he.c
 obtain rfl:c'=c:=by rw [hc] at hc';exact (Option.some.inj hc').symm
 have cv:=(hu.ts c' (mG0 hc')).v
 have V0:e.2.1.length≤1000:=by omega
 have G0:e.2.2.1.length≤1000:=by rw [he.g];have:=hu.g;omega
 have A0:e.2.2.2.1.length≤1000:=by rw [he.a];have:=hu.a;omega
 have hE:=hl.e
 have hm:=he.must
 have hy:=he.may
 have hn':l.length<9223372036854775807:=by omega
 have hn2:l.length<1000000000000:=by omega
 have hT:0≤T∧T<c'.1:=Zy.1 ha.h1
 have eT:decide (0≤T)=true:=dT0 hT.1
 have lT:T.toNat<e.2.1.length:=by omega
 have hG:0≤G∧G<(u.1.length:Int):=Zy.1 ha.h4
 have eG:decide (0≤G)=true:=dT0 hG.1
 have lG:G.toNat<e.2.2.1.length:=by rw [he.g];omega
 obtain ⟨gd,hgd⟩:=ZL e.2.2.1 G (by rw [he.g];omega)
 have r1:=Ztd u t e l false G gd hG.1 hgd hm hE hn'
 have r2:=ZIa t e l false G gd hG.1 hgd hm hE hn'
 apply exO
 ·simp only [F_5,Qe,r1,List.nil_append,List.length_nil,Nat.zero_add,List.length_set,limc V0,limc G0,limc A0,cond_true,cond_false,Zb,Bool.not_true,Bool.not_false,eT,look lT]
  rfl
 ·(simp only [R_5,Qm,r2,Zw,HV e T _ hT.1 (by omega) V0,List.nil_append,List.length_nil,Nat.zero_add,List.length_set,limc V0,limc G0,limc A0,cond_true,cond_false,Zb,Bool.not_true,Bool.not_false])<;>rfl
 ·refine ⟨⟨?_,?_,?_⟩,⟨?_,?_,?_⟩,?_,?_,?_⟩<;>simp only [List.length_set,List.length_nil,List.length_cons,gmap,List.length_mapIdx]<;>omega
theorem Z6H (u:U) (t n:Int) (e:E) (l:List En) (c:C) (T X Y G N op nx el:Int) (h0:0≤t) (hu:unitOK u) (hl:tabOK l) (hn:l.length≤1000) (he:envOK u t e) (hc:u.2.2.2[t.toNat]? = some c) (ha:actOK u c (6,T,X,Y,G,N,op,nx,el)):∃ o,bF u t n e l c (6,T,X,Y,G,N,op,nx,el)=some o∧bR u t n e l c (6,T,X,Y,G,N,op,nx,el)=some o∧VN o:=by
 obtain ⟨c',hc',hv⟩:=he.c
 obtain rfl:c'=c:=by rw [hc] at hc';exact (Option.some.inj hc').symm
 have cv:=(hu.ts c' (mG0 hc')).v
 have V0:e.2.1.length≤1000:=by omega
 have G0:e.2.2.1.length≤1000:=by rw [he.g];have:=hu.g;omega
 have A0:e.2.2.2.1.length≤1000:=by rw [he.a];have:=hu.a;omega
 have hE:=hl.e
 have hm:=he.must
 have hy:=he.may
 have hn':l.length<9223372036854775807:=by omega
 have hn2:l.length<1000000000000:=by omega
 have hX:0≤X∧X<c'.1:=Zy.1 ha.h2
 have eX:decide (0≤X)=true:=dT0 hX.1
 have lX:X.toNat<e.2.1.length:=by omega
 obtain ⟨x,gx⟩:=ZL e.2.1 X (by omega)
 have vx:=he.v x (List.mem_append_left _ (List.mem_append_left _ (mG0 gx)))
 have hG:0≤G∧G<(u.1.length:Int):=Zy.1 ha.h4
 have eG:decide (0≤G)=true:=dT0 hG.1
 have lG:G.toNat<e.2.2.1.length:=by rw [he.g];omega
 obtain ⟨gd,hgd⟩:=ZL e.2.2.1 G (by rw [he.g];omega)
 apply exO
 ·simp only [F_6,gx,List.nil_append,List.length_nil,Nat.zero_add,List.length_set,limc V0,limc G0,limc A0,cond_true,cond_false,Zb,Bool.not_true,Bool.not_false,eX,eG,look lG]
  rfl
 ·(simp only [R_6,gx,eX,eG,look lG,List.nil_append,List.length_nil,Nat.zero_add,List.length_set,limc V0,limc G0,limc A0,cond_true,cond_false,Zb,Bool.not_true,Bool.not_false])<;>rfl
 ·refine ⟨⟨?_,?_,?_⟩,⟨?_,?_,?_⟩,?_,?_,?_⟩<;>simp only [List.length_set,List.length_nil,List.length_cons,gmap,List.length_mapIdx]<;>omega
theorem Z51 (u:U) (t n:Int) (e:E) (l:List En) (c:C) (T X Y G N op nx el:Int) (h0:0≤t) (hu:unitOK u) (hl:tabOK l) (hn:l.length≤1000) (he:envOK u t e) (hc:u.2.2.2[t.toNat]? = some c) (ha:actOK u c (12,T,X,Y,G,N,op,nx,el)):∃ o,bF u t n e l c (12,T,X,Y,G,N,op,nx,el)=some o∧bR u t n e l c (12,T,X,Y,G,N,op,nx,el)=some o∧VN o:=by
 obtain ⟨c',hc',hv⟩:=he.c
 obtain rfl:c'=c:=by rw [hc] at hc';exact (Option.some.inj hc').symm
 have cv:=(hu.ts c' (mG0 hc')).v
 have V0:e.2.1.length≤1000:=by omega
 have G0:e.2.2.1.length≤1000:=by rw [he.g];have:=hu.g;omega
 have A0:e.2.2.2.1.length≤1000:=by rw [he.a];have:=hu.a;omega
 have hE:=hl.e
 have hm:=he.must
 have hy:=he.may
 have hn':l.length<9223372036854775807:=by omega
 have hn2:l.length<1000000000000:=by omega
 apply exO
 ·simp only [Z3Z]
  rfl
 ·(simp only [Z6x])<;>rfl
 ·refine ⟨⟨?_,?_,?_⟩,⟨?_,?_,?_⟩,?_,?_,?_⟩<;>simp only [List.length_set,List.length_nil,List.length_cons,gmap,List.length_mapIdx]<;>omega
theorem Z52 (u:U) (t n:Int) (e:E) (l:List En) (c:C) (T X Y G N op nx el:Int) (h0:0≤t) (hu:unitOK u) (hl:tabOK l) (hn:l.length≤1000) (he:envOK u t e) (hc:u.2.2.2[t.toNat]? = some c) (ha:actOK u c (13,T,X,Y,G,N,op,nx,el)):∃ o,bF u t n e l c (13,T,X,Y,G,N,op,nx,el)=some o∧bR u t n e l c (13,T,X,Y,G,N,op,nx,el)=some o∧VN o:=by
 obtain ⟨c',hc',hv⟩:=he.c
 obtain rfl:c'=c:=by rw [hc] at hc';exact (Option.some.inj hc').symm
 have cv:=(hu.ts c' (mG0 hc')).v
 have V0:e.2.1.length≤1000:=by omega
 have G0:e.2.2.1.length≤1000:=by rw [he.g];have:=hu.g;omega
 have A0:e.2.2.2.1.length≤1000:=by rw [he.a];have:=hu.a;omega
 have hE:=hl.e
 have hm:=he.must
 have hy:=he.may
 have hn':l.length<9223372036854775807:=by omega
 have hn2:l.length<1000000000000:=by omega
 apply exO
 ·simp only [Z30]
  rfl
 ·(simp only [Z6y])<;>rfl
 ·refine ⟨⟨?_,?_,?_⟩,⟨?_,?_,?_⟩,?_,?_,?_⟩<;>simp only [List.length_set,List.length_nil,List.length_cons,gmap,List.length_mapIdx]<;>omega
theorem Z53 (u:U) (t n:Int) (e:E) (l:List En) (c:C) (T X Y G N op nx el:Int) (h0:0≤t) (hu:unitOK u) (hl:tabOK l) (hn:l.length≤1000) (he:envOK u t e) (hc:u.2.2.2[t.toNat]? = some c) (ha:actOK u c (14,T,X,Y,G,N,op,nx,el)):∃ o,bF u t n e l c (14,T,X,Y,G,N,op,nx,el)=some o∧bR u t n e l c (14,T,X,Y,G,N,op,nx,el)=some o∧VN o:=by
 obtain ⟨c',hc',hv⟩:=he.c
 obtain rfl:c'=c:=by rw [hc] at hc';exact (Option.some.inj hc').symm
 have cv:=(hu.ts c' (mG0 hc')).v
 have V0:e.2.1.length≤1000:=by omega
 have G0:e.2.2.1.length≤1000:=by rw [he.g];have:=hu.g;omega
 have A0:e.2.2.2.1.length≤1000:=by rw [he.a];have:=hu.a;omega
 have hE:=hl.e
 have hm:=he.must
 have hy:=he.may
 have hn':l.length<9223372036854775807:=by omega
 have hn2:l.length<1000000000000:=by omega
 apply exO
 ·simp only [Z31]
  rfl
 ·(simp only [Z6z])<;>rfl
 ·refine ⟨⟨?_,?_,?_⟩,⟨?_,?_,?_⟩,?_,?_,?_⟩<;>simp only [List.length_set,List.length_nil,List.length_cons,gmap,List.length_mapIdx]<;>omega
def offE:E:=(false,[],[],[],0,0)
def setE (e:E) (T:Int) (v:I):E:=(e.1,e.2.1.set T.toNat v,e.2.2)
def sideV (e:E) (X Y r:Int) (x y:I):E:=
 bif X==Y then bif Zd (mSpan (refI r x y).1 (refI r x y).2) then offE else setE (setE e X (mSpan (refI r x y).1 (refI r x y).2)) Y (mSpan (refI r x y).1 (refI r x y).2)
 else bif Zd (refI r x y).1 then offE else bif Zd (refI r x y).2 then offE else setE (setE e X (refI r x y).1) Y (refI r x y).2
theorem decE (z:I):decide (z.1>z.2)=Zd z:=rfl
theorem ZRr (u:U) (t n:Int) (e:E) (l:List En) (c:C) (T X Y G N op nx el:Int)  (hu:unitOK u) (hE:∀ x∈l,entOK x) (hn:l.length≤1000) (he:envOK u t e) (hc:u.2.2.2[t.toNat]? = some c) (ha:actOK u c (1,T,X,Y,G,N,op,nx,el)):bF u t n e l c (1,T,X,Y,G,N,op,nx,el)=some (setE e T (N,N),offE,[],[],[]):=by
 obtain ⟨c',hc',hv⟩:=he.c
 obtain rfl:c'=c:=by rw [hc] at hc';exact (Option.some.inj hc').symm
 have cv:=(hu.ts c' (mG0 hc')).v
 have V0:e.2.1.length≤1000:=by omega
 have G0:e.2.2.1.length≤1000:=by rw [he.g];have:=hu.g;omega
 have A0:e.2.2.2.1.length≤1000:=by rw [he.a];have:=hu.a;omega
 have hm:=he.must
 have hy:=he.may
 have hn':l.length<9223372036854775807:=by omega
 have hn2:l.length<1000000000000:=by omega
 have hT:0≤T∧T<c'.1:=Zy.1 ha.h1
 have eT:decide (0≤T)=true:=dT0 hT.1
 have lT:T.toNat<e.2.1.length:=by omega
 have hN:fitB N=true:=ha.n
 (simp only [F_1,ZST N hN,List.nil_append,List.length_nil,Nat.zero_add,List.length_set,limc V0,limc G0,limc A0,cond_true,cond_false,Zb,Bool.not_true,Bool.not_false,eT,look lT])<;>rfl
theorem ZRs (u:U) (t n:Int) (e:E) (l:List En) (c:C) (T X Y G N op nx el:Int) {x:I} (gx:e.2.1[X.toNat]? = some x) (hu:unitOK u) (hE:∀ x∈l,entOK x) (hn:l.length≤1000) (he:envOK u t e) (hc:u.2.2.2[t.toNat]? = some c) (ha:actOK u c (2,T,X,Y,G,N,op,nx,el)):bF u t n e l c (2,T,X,Y,G,N,op,nx,el)=some (setE e T x,offE,[],[],[]):=by
 obtain ⟨c',hc',hv⟩:=he.c
 obtain rfl:c'=c:=by rw [hc] at hc';exact (Option.some.inj hc').symm
 have cv:=(hu.ts c' (mG0 hc')).v
 have V0:e.2.1.length≤1000:=by omega
 have G0:e.2.2.1.length≤1000:=by rw [he.g];have:=hu.g;omega
 have A0:e.2.2.2.1.length≤1000:=by rw [he.a];have:=hu.a;omega
 have hm:=he.must
 have hy:=he.may
 have hn':l.length<9223372036854775807:=by omega
 have hn2:l.length<1000000000000:=by omega
 have hT:0≤T∧T<c'.1:=Zy.1 ha.h1
 have eT:decide (0≤T)=true:=dT0 hT.1
 have lT:T.toNat<e.2.1.length:=by omega
 have hX:0≤X∧X<c'.1:=Zy.1 ha.h2
 have eX:decide (0≤X)=true:=dT0 hX.1
 have lX:X.toNat<e.2.1.length:=by omega
 (simp only [F_2,gx,List.nil_append,List.length_nil,Nat.zero_add,List.length_set,limc V0,limc G0,limc A0,cond_true,cond_false,Zb,Bool.not_true,Bool.not_false,eT,eX,look lT])<;>rfl
theorem ZRt (u:U) (t n:Int) (e:E) (l:List En) (c:C) (T X Y G N op nx el:Int)  (hu:unitOK u) (hE:∀ x∈l,entOK x) (hn:l.length≤1000) (he:envOK u t e) (hc:u.2.2.2[t.toNat]? = some c) (ha:actOK u c (3,T,X,Y,G,N,op,nx,el)):bF u t n e l c (3,T,X,Y,G,N,op,nx,el)=some (setE e T (-2147483648,2147483647),offE,[],[],[]):=by
 obtain ⟨c',hc',hv⟩:=he.c
 obtain rfl:c'=c:=by rw [hc] at hc';exact (Option.some.inj hc').symm
 have cv:=(hu.ts c' (mG0 hc')).v
 have V0:e.2.1.length≤1000:=by omega
 have G0:e.2.2.1.length≤1000:=by rw [he.g];have:=hu.g;omega
 have A0:e.2.2.2.1.length≤1000:=by rw [he.a];have:=hu.a;omega
 have hm:=he.must
 have hy:=he.may
 have hn':l.length<9223372036854775807:=by omega
 have hn2:l.length<1000000000000:=by omega
 have hT:0≤T∧T<c'.1:=Zy.1 ha.h1
 have eT:decide (0≤T)=true:=dT0 hT.1
 have lT:T.toNat<e.2.1.length:=by omega
 (simp only [F_3,List.nil_append,List.length_nil,Nat.zero_add,List.length_set,limc V0,limc G0,limc A0,cond_true,cond_false,Zb,Bool.not_true,Bool.not_false,eT,look lT])<;>rfl
theorem ZRu (u:U) (t n:Int) (e:E) (l:List En) (c:C) (T X Y G N op nx el:Int) {x:I} (gx:e.2.1[X.toNat]? = some x) {y:I} (gy:e.2.1[Y.toNat]? = some y) (hu:unitOK u) (hE:∀ x∈l,entOK x) (hn:l.length≤1000) (he:envOK u t e) (hc:u.2.2.2[t.toNat]? = some c) (ha:actOK u c (4,T,X,Y,G,N,op,nx,el)):bF u t n e l c (4,T,X,Y,G,N,op,nx,el)=some (bif Zd (doI op x y).1 then offE else setE e T (doI op x y).1,offE,(bif (doI op x y).2.1 then [7] else [])++(bif (doI op x y).2.2 then [8] else []),[],[]):=by
 obtain ⟨c',hc',hv⟩:=he.c
 obtain rfl:c'=c:=by rw [hc] at hc';exact (Option.some.inj hc').symm
 have cv:=(hu.ts c' (mG0 hc')).v
 have V0:e.2.1.length≤1000:=by omega
 have G0:e.2.2.1.length≤1000:=by rw [he.g];have:=hu.g;omega
 have A0:e.2.2.2.1.length≤1000:=by rw [he.a];have:=hu.a;omega
 have hm:=he.must
 have hy:=he.may
 have hn':l.length<9223372036854775807:=by omega
 have hn2:l.length<1000000000000:=by omega
 have hT:0≤T∧T<c'.1:=Zy.1 ha.h1
 have eT:decide (0≤T)=true:=dT0 hT.1
 have lT:T.toNat<e.2.1.length:=by omega
 have hX:0≤X∧X<c'.1:=Zy.1 ha.h2
 have eX:decide (0≤X)=true:=dT0 hX.1
 have lX:X.toNat<e.2.1.length:=by omega
 have hY:0≤Y∧Y<c'.1:=Zy.1 ha.h3
 have eY:decide (0≤Y)=true:=dT0 hY.1
 have lY:Y.toNat<e.2.1.length:=by omega
 have vx:=he.v x (List.mem_append_left _ (List.mem_append_left _ (mG0 gx)))
 have vy:=he.v y (List.mem_append_left _ (List.mem_append_left _ (mG0 gy)))
 have d1:=ZS9 op x y vx.1 vy.1
 generalize doI op x y=r at d1
 obtain ⟨z,o,w⟩:=r
 simp only at d1
 cases o<;>cases w<;>cases k:Zd z
 all_goals (simp only [F_4,gx,gy,Zsc,d1,decE,k,List.nil_append,List.length_nil,Nat.zero_add,List.length_set,limc V0,limc G0,limc A0,cond_true,cond_false,Zb,Bool.not_true,Bool.not_false,eT,eX,eY,look lT])<;>rfl
theorem ZRv (u:U) (t n:Int) (e:E) (l:List En) (c:C) (T X Y G N op nx el:Int) {gd:I} (hgd:e.2.2.1[G.toNat]? = some gd) (hu:unitOK u) (hE:∀ x∈l,entOK x) (hn:l.length≤1000) (he:envOK u t e) (hc:u.2.2.2[t.toNat]? = some c) (ha:actOK u c (5,T,X,Y,G,N,op,nx,el)):bF u t n e l c (5,T,X,Y,G,N,op,nx,el)=some (setE e T (readV gd l t false G e.2.2.2.2.1),offE,[],[],[(t,n,false,G,false,e.2.2.2.2.1)]):=by
 obtain ⟨c',hc',hv⟩:=he.c
 obtain rfl:c'=c:=by rw [hc] at hc';exact (Option.some.inj hc').symm
 have cv:=(hu.ts c' (mG0 hc')).v
 have V0:e.2.1.length≤1000:=by omega
 have G0:e.2.2.1.length≤1000:=by rw [he.g];have:=hu.g;omega
 have A0:e.2.2.2.1.length≤1000:=by rw [he.a];have:=hu.a;omega
 have hm:=he.must
 have hy:=he.may
 have hn':l.length<9223372036854775807:=by omega
 have hn2:l.length<1000000000000:=by omega
 have hT:0≤T∧T<c'.1:=Zy.1 ha.h1
 have eT:decide (0≤T)=true:=dT0 hT.1
 have lT:T.toNat<e.2.1.length:=by omega
 have hG:0≤G∧G<(u.1.length:Int):=Zy.1 ha.h4
 have eG:decide (0≤G)=true:=dT0 hG.1
 have lG:G.toNat<e.2.2.1.length:=by rw [he.g];omega
 have r1:=Ztd u t e l false G gd hG.1 hgd hm hE hn'
 (simp only [F_5,Qe,r1,List.nil_append,List.length_nil,Nat.zero_add,List.length_set,limc V0,limc G0,limc A0,cond_true,cond_false,Zb,Bool.not_true,Bool.not_false,eT,look lT])<;>rfl
theorem ZRw (u:U) (t n:Int) (e:E) (l:List En) (c:C) (T X Y G N op nx el:Int) {x:I} (gx:e.2.1[X.toNat]? = some x) (hu:unitOK u) (hE:∀ x∈l,entOK x) (hn:l.length≤1000) (he:envOK u t e) (hc:u.2.2.2[t.toNat]? = some c) (ha:actOK u c (6,T,X,Y,G,N,op,nx,el)):bF u t n e l c (6,T,X,Y,G,N,op,nx,el)=some ((e.1,e.2.1,e.2.2.1.set G.toNat x,e.2.2.2),offE,[],[(t,false,G,e.2.2.2.2.1,x)],[(t,n,false,G,true,e.2.2.2.2.1)]):=by
 obtain ⟨c',hc',hv⟩:=he.c
 obtain rfl:c'=c:=by rw [hc] at hc';exact (Option.some.inj hc').symm
 have cv:=(hu.ts c' (mG0 hc')).v
 have V0:e.2.1.length≤1000:=by omega
 have G0:e.2.2.1.length≤1000:=by rw [he.g];have:=hu.g;omega
 have A0:e.2.2.2.1.length≤1000:=by rw [he.a];have:=hu.a;omega
 have hm:=he.must
 have hy:=he.may
 have hn':l.length<9223372036854775807:=by omega
 have hn2:l.length<1000000000000:=by omega
 have hX:0≤X∧X<c'.1:=Zy.1 ha.h2
 have eX:decide (0≤X)=true:=dT0 hX.1
 have lX:X.toNat<e.2.1.length:=by omega
 have hG:0≤G∧G<(u.1.length:Int):=Zy.1 ha.h4
 have eG:decide (0≤G)=true:=dT0 hG.1
 have lG:G.toNat<e.2.2.1.length:=by rw [he.g];omega
 (simp only [F_6,gx,List.nil_append,List.length_nil,Nat.zero_add,List.length_set,limc V0,limc G0,limc A0,cond_true,cond_false,Zb,Bool.not_true,Bool.not_false,eX,eG,look lG])<;>rfl
theorem ZRx (u:U) (t n:Int) (e:E) (l:List En) (c:C) (T X Y G N op nx el:Int) {x:I} (gx:e.2.1[X.toNat]? = some x) {m:Int} (gm:u.2.1[G.toNat]? = some m) {gd:I} (hgd:e.2.2.2.1[G.toNat]? = some gd) (hu:unitOK u) (hE:∀ x∈l,entOK x) (hn:l.length≤1000) (he:envOK u t e) (hc:u.2.2.2[t.toNat]? = some c) (ha:actOK u c (7,T,X,Y,G,N,op,nx,el)):bF u t n e l c (7,T,X,Y,G,N,op,nx,el)=some (bif Zd (mSpan x (0,m - 1)) then offE else setE (setE e X (mSpan x (0,m - 1))) T (readV gd l t true G e.2.2.2.2.1),offE,(bif leqB x (0,m - 1) then [] else [9]),[],[(t,n,true,G,false,e.2.2.2.2.1)]):=by
 obtain ⟨c',hc',hv⟩:=he.c
 obtain rfl:c'=c:=by rw [hc] at hc';exact (Option.some.inj hc').symm
 have cv:=(hu.ts c' (mG0 hc')).v
 have V0:e.2.1.length≤1000:=by omega
 have G0:e.2.2.1.length≤1000:=by rw [he.g];have:=hu.g;omega
 have A0:e.2.2.2.1.length≤1000:=by rw [he.a];have:=hu.a;omega
 have hm:=he.must
 have hy:=he.may
 have hn':l.length<9223372036854775807:=by omega
 have hn2:l.length<1000000000000:=by omega
 have hT:0≤T∧T<c'.1:=Zy.1 ha.h1
 have eT:decide (0≤T)=true:=dT0 hT.1
 have lT:T.toNat<e.2.1.length:=by omega
 have hX:0≤X∧X<c'.1:=Zy.1 ha.h2
 have eX:decide (0≤X)=true:=dT0 hX.1
 have lX:X.toNat<e.2.1.length:=by omega
 have vx:=he.v x (List.mem_append_left _ (List.mem_append_left _ (mG0 gx)))
 have hG:0≤G∧G<(u.2.1.length:Int):=Zy.1 ha.h4
 have eG:decide (0≤G)=true:=dT0 hG.1
 have lG:G.toNat<e.2.2.2.1.length:=by rw [he.a];omega
 have vm:=hu.ars m (mG0 gm)
 have hr:IntKind.i64.wrap (m - 1)=m - 1:=Znt (by omega) (by omega)
 have r0:Zd (0,m - 1)=false:=Z8 (by show (0:Int)≤m - 1;omega)
 have rB:isB (0,m - 1)=true:=by simp [isB,fitB];omega
 have q1:=Zkj x (0,m - 1)
 have q2:=ZkI x (0,m - 1)
 have q3:=W0 x (0,m - 1)
 have q4:=Zfd x (0,m - 1)
 rw [Zfc vx.2 r0] at q3
 have zB:=Znd (y:=x) (p:=(0,m - 1)) vx.1 rB
 generalize mSpan x (0,m - 1)=z at q3 q4 zB
 have r1:=Ztd u t (e.1,e.2.1.set X.toNat z,e.2.2) l true G gd hG.1 hgd hm hE hn'
 have lT2:T.toNat<(e.2.1.set X.toNat z).length:=by rw [List.length_set];exact lT
 cases k1:leqB x (0,m - 1)<;>cases k2:Zd z
 all_goals rw [k1] at q1
 all_goals (simp only [F_7,gm,gx,hr,QB,q1,ZH,q3,decE,k2,Qe,r1,List.nil_append,List.length_nil,Nat.zero_add,List.length_set,limc V0,limc G0,limc A0,cond_true,cond_false,Zb,Bool.not_true,Bool.not_false,eT,eX,eG,look lX,look lT2])<;>rfl
theorem ZRy (u:U) (t n:Int) (e:E) (l:List En) (c:C) (T X Y G N op nx el:Int) {x:I} (gx:e.2.1[X.toNat]? = some x) {y:I} (gy:e.2.1[Y.toNat]? = some y) {m:Int} (gm:u.2.1[G.toNat]? = some m) {gd y':I} (hgd:e.2.2.2.1[G.toNat]? = some gd) (gy':(e.2.1.set X.toNat (mSpan x (0,m - 1)))[Y.toNat]? = some y') (hu:unitOK u) (hE:∀ x∈l,entOK x) (hn:l.length≤1000) (he:envOK u t e) (hc:u.2.2.2[t.toNat]? = some c) (ha:actOK u c (8,T,X,Y,G,N,op,nx,el)):bF u t n e l c (8,T,X,Y,G,N,op,nx,el)=some (bif Zd (mSpan x (0,m - 1)) then offE else (e.1,e.2.1.set X.toNat (mSpan x (0,m - 1)),e.2.2.1,e.2.2.2.1.set G.toNat (rJoin gd y'),e.2.2.2.2),offE,(bif leqB x (0,m - 1) then [] else [9]),[(t,true,G,e.2.2.2.2.1,y)],[(t,n,true,G,true,e.2.2.2.2.1)]):=by
 obtain ⟨c',hc',hv⟩:=he.c
 obtain rfl:c'=c:=by rw [hc] at hc';exact (Option.some.inj hc').symm
 have cv:=(hu.ts c' (mG0 hc')).v
 have V0:e.2.1.length≤1000:=by omega
 have G0:e.2.2.1.length≤1000:=by rw [he.g];have:=hu.g;omega
 have A0:e.2.2.2.1.length≤1000:=by rw [he.a];have:=hu.a;omega
 have hm:=he.must
 have hy:=he.may
 have hn':l.length<9223372036854775807:=by omega
 have hn2:l.length<1000000000000:=by omega
 have hX:0≤X∧X<c'.1:=Zy.1 ha.h2
 have eX:decide (0≤X)=true:=dT0 hX.1
 have lX:X.toNat<e.2.1.length:=by omega
 have hY:0≤Y∧Y<c'.1:=Zy.1 ha.h3
 have eY:decide (0≤Y)=true:=dT0 hY.1
 have lY:Y.toNat<e.2.1.length:=by omega
 have vx:=he.v x (List.mem_append_left _ (List.mem_append_left _ (mG0 gx)))
 have hG:0≤G∧G<(u.2.1.length:Int):=Zy.1 ha.h4
 have eG:decide (0≤G)=true:=dT0 hG.1
 have lG:G.toNat<e.2.2.2.1.length:=by rw [he.a];omega
 have vm:=hu.ars m (mG0 gm)
 have hr:IntKind.i64.wrap (m - 1)=m - 1:=Znt (by omega) (by omega)
 have r0:Zd (0,m - 1)=false:=Z8 (by show (0:Int)≤m - 1;omega)
 have rB:isB (0,m - 1)=true:=by simp [isB,fitB];omega
 have q1:=Zkj x (0,m - 1)
 have q2:=ZkI x (0,m - 1)
 have q3:=W0 x (0,m - 1)
 have q4:=Zfd x (0,m - 1)
 rw [Zfc vx.2 r0] at q3
 have zB:=Znd (y:=x) (p:=(0,m - 1)) vx.1 rB
 generalize mSpan x (0,m - 1)=z at q3 q4 zB gy'
 cases k1:leqB x (0,m - 1)<;>cases k2:Zd z
 all_goals
  rw [k1] at q1
  have yB:Zd z=false→isB y'=true:=fun h=>by
   rcases List.mem_or_eq_of_mem_set (mG0 gy') with h1 | h1
   ·exact (he.v y' (List.mem_append_left _ (List.mem_append_left _ h1))).1
   ·rw [h1];exact zB h
  have JE:(Zg gd y'=rJoin gd y')∨Zd z=true:=by
   cases h:Zd z
   ·exact .inl (Zca (yB h))
   ·exact .inr rfl
  rw [k2] at JE
  simp only [Bool.true_eq_false,Bool.false_eq_true,or_false,or_true] at JE
  (simp only [F_8,gm,gx,gy,gy',hgd,hr,QB,q1,ZH,q3,decE,k2,ZM,WF,JE,List.nil_append,List.length_nil,Nat.zero_add,List.length_set,limc V0,limc G0,limc A0,cond_true,cond_false,Zb,Bool.not_true,Bool.not_false,eY,eX,eG,look lX])<;>rfl
theorem ZRz (u:U) (t n:Int) (e:E) (l:List En) (c:C) (T X Y G N op nx el:Int)  (hu:unitOK u) (hE:∀ x∈l,entOK x) (hn:l.length≤1000) (he:envOK u t e) (hc:u.2.2.2[t.toNat]? = some c) (ha:actOK u c (9,T,X,Y,G,N,op,nx,el)):bF u t n e l c (9,T,X,Y,G,N,op,nx,el)=some (bif tb e.2.2.2.2.1 G then offE else (e.1,e.2.1,gmap l t false e.2.2.2.2.1 G e.2.2.1,gmap l t true e.2.2.2.2.1 G e.2.2.2.1,wiI e.2.2.2.2.1 G,wiI e.2.2.2.2.2 G),offE,(bif tb e.2.2.2.2.2 G then [11] else []),[],[]):=by
 obtain ⟨c',hc',hv⟩:=he.c
 obtain rfl:c'=c:=by rw [hc] at hc';exact (Option.some.inj hc').symm
 have cv:=(hu.ts c' (mG0 hc')).v
 have V0:e.2.1.length≤1000:=by omega
 have G0:e.2.2.1.length≤1000:=by rw [he.g];have:=hu.g;omega
 have A0:e.2.2.2.1.length≤1000:=by rw [he.a];have:=hu.a;omega
 have hm:=he.must
 have hy:=he.may
 have hn':l.length<9223372036854775807:=by omega
 have hn2:l.length<1000000000000:=by omega
 have hG:0≤G∧G<u.2.2.1:=Zy.1 ha.h4
 have hM:0≤G∧G<31:=by have:=hu.m;omega
 have a1:=Zcq e.2.2.2.2.1 G (by omega)
 have a2:=Zcq e.2.2.2.2.2 G (by omega)
 have w1:=Zte e.2.2.2.2.1 G hm
 have w2:=Zte e.2.2.2.2.2 G hy
 have G1:e.2.2.1.length<9223372036854775807:=by omega
 have A1:e.2.2.2.1.length<9223372036854775807:=by omega
 cases k1:tb e.2.2.2.2.1 G<;>cases k2:tb e.2.2.2.2.2 G
 all_goals
  rw [k1] at a1
  rw [k2] at a2
  (simp only [F_9,ZZ,a1,a2,Yz,w1,w2,Z9,Zn5,Vn hm hE hn2 G1,Vn hm hE hn2 A1,List.nil_append,List.length_nil,Nat.zero_add,List.length_set,limc V0,limc G0,limc A0,cond_true,cond_false,Zb,Bool.not_true,Bool.not_false])<;>rfl
theorem ZNk (u:U) (t n:Int) (e:E) (l:List En) (c:C) (T X Y G N op nx el:Int)  (hu:unitOK u) (hE:∀ x∈l,entOK x) (hn:l.length≤1000) (he:envOK u t e) (hc:u.2.2.2[t.toNat]? = some c) (ha:actOK u c (10,T,X,Y,G,N,op,nx,el)):bF u t n e l c (10,T,X,Y,G,N,op,nx,el)=some (bif tb e.2.2.2.2.2 G then (e.1,e.2.1,e.2.2.1,e.2.2.2.1,woI e.2.2.2.2.1 G,woI e.2.2.2.2.2 G) else offE,offE,(bif tb e.2.2.2.2.1 G then [] else [12]),[],[]):=by
 obtain ⟨c',hc',hv⟩:=he.c
 obtain rfl:c'=c:=by rw [hc] at hc';exact (Option.some.inj hc').symm
 have cv:=(hu.ts c' (mG0 hc')).v
 have V0:e.2.1.length≤1000:=by omega
 have G0:e.2.2.1.length≤1000:=by rw [he.g];have:=hu.g;omega
 have A0:e.2.2.2.1.length≤1000:=by rw [he.a];have:=hu.a;omega
 have hm:=he.must
 have hy:=he.may
 have hn':l.length<9223372036854775807:=by omega
 have hn2:l.length<1000000000000:=by omega
 have hG:0≤G∧G<u.2.2.1:=Zy.1 ha.h4
 have hM:0≤G∧G<31:=by have:=hu.m;omega
 have a1:=Zcq e.2.2.2.2.1 G (by omega)
 have a2:=Zcq e.2.2.2.2.2 G (by omega)
 cases k1:tb e.2.2.2.2.1 G<;>cases k2:tb e.2.2.2.2.2 G
 all_goals
  rw [k1] at a1
  rw [k2] at a2
  (simp only [Z3Y,ZZ,a1,a2,QN,ZA1,List.nil_append,List.length_nil,Nat.zero_add,List.length_set,limc V0,limc G0,limc A0,cond_true,cond_false,Zb,Bool.not_true,Bool.not_false])<;>rfl
theorem ZNl (u:U) (t n:Int) (e:E) (l:List En) (c:C) (T X Y G N op nx el:Int) {x:I} (gx:e.2.1[X.toNat]? = some x) {y:I} (gy:e.2.1[Y.toNat]? = some y) {w:Int} (n1:Ztz op=some w) (hu:unitOK u) (hE:∀ x∈l,entOK x) (hn:l.length≤1000) (he:envOK u t e) (hc:u.2.2.2[t.toNat]? = some c) (ha:actOK u c (11,T,X,Y,G,N,op,nx,el)):bF u t n e l c (11,T,X,Y,G,N,op,nx,el)=some (sideV e X Y op x y,sideV e X Y w x y,[],[],[]):=by
 obtain ⟨c',hc',hv⟩:=he.c
 obtain rfl:c'=c:=by rw [hc] at hc';exact (Option.some.inj hc').symm
 have cv:=(hu.ts c' (mG0 hc')).v
 have V0:e.2.1.length≤1000:=by omega
 have G0:e.2.2.1.length≤1000:=by rw [he.g];have:=hu.g;omega
 have A0:e.2.2.2.1.length≤1000:=by rw [he.a];have:=hu.a;omega
 have hm:=he.must
 have hy:=he.may
 have hn':l.length<9223372036854775807:=by omega
 have hn2:l.length<1000000000000:=by omega
 have hX:0≤X∧X<c'.1:=Zy.1 ha.h2
 have eX:decide (0≤X)=true:=dT0 hX.1
 have lX:X.toNat<e.2.1.length:=by omega
 have hY:0≤Y∧Y<c'.1:=Zy.1 ha.h3
 have eY:decide (0≤Y)=true:=dT0 hY.1
 have lY:Y.toNat<e.2.1.length:=by omega
 have vx:=he.v x (List.mem_append_left _ (List.mem_append_left _ (mG0 gx)))
 have vy:=he.v y (List.mem_append_left _ (List.mem_append_left _ (mG0 gy)))
 have f1:=ZqL op x y vx.1 vy.1
 have f3:=ZqL w x y vx.1 vy.1
 have p1:=ZDA op x y
 have p3:=ZDA w x y
 unfold sideV
 generalize refI op x y=a at f1 p1
 generalize refI w x y=b at f3 p3
 have m1:=W0 a.1 a.2
 have m3:=W0 b.1 b.2
 rw [p1] at m1
 rw [p3] at m3
 generalize mSpan a.1 a.2=z at m1
 generalize mSpan b.1 b.2=o at m3
 have lY2 (v:I):Y.toNat<(e.2.1.set X.toNat v).length:=by rw [List.length_set];exact lY
 cases kXY:X==Y
 ·cases k1:Zd a.1<;>cases k2:Zd a.2<;>cases k3:Zd b.1<;>cases k4:Zd b.2
  all_goals (simp only [ZXW,gx,gy,ZX,f1,f3,Q7,n1,ZH,m1,m3,kXY,Znu,Zqs,decE,k1,k2,k3,k4,List.nil_append,List.length_nil,Nat.zero_add,List.length_set,limc V0,limc G0,limc A0,cond_true,cond_false,Zb,Bool.not_true,Bool.not_false,eX,eY,look lX,look (lY2 _)])<;>rfl
 ·cases k1:Zd z<;>cases k3:Zd o
  all_goals (simp only [ZXW,gx,gy,ZX,f1,f3,Q7,n1,ZH,m1,m3,kXY,Znu,Zqs,decE,k1,k3,List.nil_append,List.length_nil,Nat.zero_add,List.length_set,limc V0,limc G0,limc A0,cond_true,cond_false,Zb,Bool.not_true,Bool.not_false,eX,eY,look lX,look (lY2 _)])<;>rfl
theorem ZNm (u:U) (t n:Int) (e:E) (l:List En) (c:C) (T X Y G N op nx el:Int)  (hu:unitOK u) (hE:∀ x∈l,entOK x) (hn:l.length≤1000) (he:envOK u t e) (hc:u.2.2.2[t.toNat]? = some c) (ha:actOK u c (12,T,X,Y,G,N,op,nx,el)):bF u t n e l c (12,T,X,Y,G,N,op,nx,el)=some (e,offE,[],[],[]):=by
 obtain ⟨c',hc',hv⟩:=he.c
 obtain rfl:c'=c:=by rw [hc] at hc';exact (Option.some.inj hc').symm
 have cv:=(hu.ts c' (mG0 hc')).v
 have V0:e.2.1.length≤1000:=by omega
 have G0:e.2.2.1.length≤1000:=by rw [he.g];have:=hu.g;omega
 have A0:e.2.2.2.1.length≤1000:=by rw [he.a];have:=hu.a;omega
 have hm:=he.must
 have hy:=he.may
 have hn':l.length<9223372036854775807:=by omega
 have hn2:l.length<1000000000000:=by omega
 (simp only [Z3Z])<;>rfl
theorem ZNn (u:U) (t n:Int) (e:E) (l:List En) (c:C) (T X Y G N op nx el:Int)  (hu:unitOK u) (hE:∀ x∈l,entOK x) (hn:l.length≤1000) (he:envOK u t e) (hc:u.2.2.2[t.toNat]? = some c) (ha:actOK u c (13,T,X,Y,G,N,op,nx,el)):bF u t n e l c (13,T,X,Y,G,N,op,nx,el)=some (offE,offE,[10],[],[]):=by
 obtain ⟨c',hc',hv⟩:=he.c
 obtain rfl:c'=c:=by rw [hc] at hc';exact (Option.some.inj hc').symm
 have cv:=(hu.ts c' (mG0 hc')).v
 have V0:e.2.1.length≤1000:=by omega
 have G0:e.2.2.1.length≤1000:=by rw [he.g];have:=hu.g;omega
 have A0:e.2.2.2.1.length≤1000:=by rw [he.a];have:=hu.a;omega
 have hm:=he.must
 have hy:=he.may
 have hn':l.length<9223372036854775807:=by omega
 have hn2:l.length<1000000000000:=by omega
 (simp only [Z30])<;>rfl
theorem ZNo (u:U) (t n:Int) (e:E) (l:List En) (c:C) (T X Y G N op nx el:Int)  (hu:unitOK u) (hE:∀ x∈l,entOK x) (hn:l.length≤1000) (he:envOK u t e) (hc:u.2.2.2[t.toNat]? = some c) (ha:actOK u c (14,T,X,Y,G,N,op,nx,el)):bF u t n e l c (14,T,X,Y,G,N,op,nx,el)=some (offE,offE,[],[],[]):=by
 obtain ⟨c',hc',hv⟩:=he.c
 obtain rfl:c'=c:=by rw [hc] at hc';exact (Option.some.inj hc').symm
 have cv:=(hu.ts c' (mG0 hc')).v
 have V0:e.2.1.length≤1000:=by omega
 have G0:e.2.2.1.length≤1000:=by rw [he.g];have:=hu.g;omega
 have A0:e.2.2.2.1.length≤1000:=by rw [he.a];have:=hu.a;omega
 have hm:=he.must
 have hy:=he.may
 have hn':l.length<9223372036854775807:=by omega
 have hn2:l.length<1000000000000:=by omega
 (simp only [Z31])<;>rfl
theorem ZdP (x:I):leqB x x=true:=by rw [QE];unfold sub;omega
theorem ZdW {x y:I} (h:leqB x y=true) (hx:Zd x=false):sub x y∧Zd y=false:=by
 have:=ZS hx
 rw [QE] at h
 unfold sub at *
 refine ⟨by omega,Z8 (by omega)⟩
def subB (a b:Int):Prop:=∀ i:Nat,a.toNat.testBit i=true→b.toNat.testBit i=true
theorem Z6K (u:U) (t n:Int) (e:E) (l:List En) (c:C) (T X Y G N op nx el:Int) (h0:0≤t) (hu:unitOK u) (hl:tabOK l) (hn:l.length≤1000) (he:envOK u t e) (hc:u.2.2.2[t.toNat]? = some c) (ha:actOK u c (9,T,X,Y,G,N,op,nx,el)):∃ o,bF u t n e l c (9,T,X,Y,G,N,op,nx,el)=some o∧bR u t n e l c (9,T,X,Y,G,N,op,nx,el)=some o∧VN o:=by
 obtain ⟨c',hc',hv⟩:=he.c
 obtain rfl:c'=c:=by rw [hc] at hc';exact (Option.some.inj hc').symm
 have cv:=(hu.ts c' (mG0 hc')).v
 have V0:e.2.1.length≤1000:=by omega
 have G0:e.2.2.1.length≤1000:=by rw [he.g];have:=hu.g;omega
 have A0:e.2.2.2.1.length≤1000:=by rw [he.a];have:=hu.a;omega
 have hE:=hl.e
 have hm:=he.must
 have hy:=he.may
 have hn':l.length<9223372036854775807:=by omega
 have hn2:l.length<1000000000000:=by omega
 have hG:0≤G∧G<u.2.2.1:=Zy.1 ha.h4
 have hM:0≤G∧G<31:=by have:=hu.m;omega
 have a1:=Zcq e.2.2.2.2.1 G (by omega)
 have a2:=Zcq e.2.2.2.2.2 G (by omega)
 have b1:=ZqN e.2.2.2.2.1 G hm
 have b2:=ZqN e.2.2.2.2.2 G hy
 have w1:=Zte e.2.2.2.2.1 G hm
 have w2:=Zte e.2.2.2.2.2 G hy
 have z1:=ZKy e.2.2.2.2.1 G hm hM
 have z2:=ZKy e.2.2.2.2.2 G hy hM
 have G1:e.2.2.1.length<9223372036854775807:=by omega
 have A1:e.2.2.2.1.length<9223372036854775807:=by omega
 cases k1:tb e.2.2.2.2.1 G<;>cases k2:tb e.2.2.2.2.2 G
 all_goals
  rw [k1] at a1 b1
  rw [k2] at a2 b2
  apply exO
  ·simp only [F_9,ZZ,a1,a2,Yz,w1,w2,Z9,Zn5,Vn hm hE hn2 G1,Vn hm hE hn2 A1,List.nil_append,List.length_nil,Nat.zero_add,List.length_set,limc V0,limc G0,limc A0,cond_true,cond_false,Zb,Bool.not_true,Bool.not_false]
   rfl
  ·(simp only [R_9,ZmJ,ZHz,YE,b1,b2,Zie,z1,z2,ZDj hm hE hn2 G1,ZDk hm hE hn2 G1,ZDl hm hE hn2 A1,ZDm hm hE hn2 A1,show decide ((0:Int)<((0:Nat):Int))=false from rfl,List.nil_append,List.length_nil,Nat.zero_add,List.length_set,limc V0,limc G0,limc A0,cond_true,cond_false,Zb,Bool.not_true,Bool.not_false])<;>rfl
  ·refine ⟨⟨?_,?_,?_⟩,⟨?_,?_,?_⟩,?_,?_,?_⟩<;>simp only [List.length_set,List.length_nil,List.length_cons,gmap,List.length_mapIdx]<;>omega
theorem Z5Z (u:U) (t n:Int) (e:E) (l:List En) (c:C) (T X Y G N op nx el:Int) (h0:0≤t) (hu:unitOK u) (hl:tabOK l) (hn:l.length≤1000) (he:envOK u t e) (hc:u.2.2.2[t.toNat]? = some c) (ha:actOK u c (10,T,X,Y,G,N,op,nx,el)):∃ o,bF u t n e l c (10,T,X,Y,G,N,op,nx,el)=some o∧bR u t n e l c (10,T,X,Y,G,N,op,nx,el)=some o∧VN o:=by
 obtain ⟨c',hc',hv⟩:=he.c
 obtain rfl:c'=c:=by rw [hc] at hc';exact (Option.some.inj hc').symm
 have cv:=(hu.ts c' (mG0 hc')).v
 have V0:e.2.1.length≤1000:=by omega
 have G0:e.2.2.1.length≤1000:=by rw [he.g];have:=hu.g;omega
 have A0:e.2.2.2.1.length≤1000:=by rw [he.a];have:=hu.a;omega
 have hE:=hl.e
 have hm:=he.must
 have hy:=he.may
 have hn':l.length<9223372036854775807:=by omega
 have hn2:l.length<1000000000000:=by omega
 have hG:0≤G∧G<u.2.2.1:=Zy.1 ha.h4
 have hM:0≤G∧G<31:=by have:=hu.m;omega
 have a1:=Zcq e.2.2.2.2.1 G (by omega)
 have a2:=Zcq e.2.2.2.2.2 G (by omega)
 have b1:=ZqN e.2.2.2.2.1 G hm
 have b2:=ZqN e.2.2.2.2.2 G hy
 cases k1:tb e.2.2.2.2.1 G<;>cases k2:tb e.2.2.2.2.2 G
 all_goals
  rw [k1] at a1 b1
  rw [k2] at a2 b2
  apply exO
  ·simp only [Z3Y,ZZ,a1,a2,QN,ZA1,List.nil_append,List.length_nil,Nat.zero_add,List.length_set,limc V0,limc G0,limc A0,cond_true,cond_false,Zb,Bool.not_true,Bool.not_false]
   rfl
  ·(simp only [Z6w,Zjj,ZAO,YE,b1,b2,Zb1,ZOn _ _ hM,show decide ((0:Int)<((0:Nat):Int))=false from rfl,List.nil_append,List.length_nil,Nat.zero_add,List.length_set,limc V0,limc G0,limc A0,cond_true,cond_false,Zb,Bool.not_true,Bool.not_false])<;>rfl
  ·refine ⟨⟨?_,?_,?_⟩,⟨?_,?_,?_⟩,?_,?_,?_⟩<;>simp only [List.length_set,List.length_nil,List.length_cons,gmap,List.length_mapIdx]<;>omega
theorem Z6F (u:U) (t n:Int) (e:E) (l:List En) (c:C) (T X Y G N op nx el:Int) (h0:0≤t) (hu:unitOK u) (hl:tabOK l) (hn:l.length≤1000) (he:envOK u t e) (hc:u.2.2.2[t.toNat]? = some c) (ha:actOK u c (4,T,X,Y,G,N,op,nx,el)):∃ o,bF u t n e l c (4,T,X,Y,G,N,op,nx,el)=some o∧bR u t n e l c (4,T,X,Y,G,N,op,nx,el)=some o∧VN o:=by
 obtain ⟨c',hc',hv⟩:=he.c
 obtain rfl:c'=c:=by rw [hc] at hc';exact (Option.some.inj hc').symm
 have cv:=(hu.ts c' (mG0 hc')).v
 have V0:e.2.1.length≤1000:=by omega
 have G0:e.2.2.1.length≤1000:=by rw [he.g];have:=hu.g;omega
 have A0:e.2.2.2.1.length≤1000:=by rw [he.a];have:=hu.a;omega
 have hE:=hl.e
 have hm:=he.must
 have hy:=he.may
 have hn':l.length<9223372036854775807:=by omega
 have hn2:l.length<1000000000000:=by omega
 have hT:0≤T∧T<c'.1:=Zy.1 ha.h1
 have eT:decide (0≤T)=true:=dT0 hT.1
 have lT:T.toNat<e.2.1.length:=by omega
 have hX:0≤X∧X<c'.1:=Zy.1 ha.h2
 have eX:decide (0≤X)=true:=dT0 hX.1
 have lX:X.toNat<e.2.1.length:=by omega
 have hY:0≤Y∧Y<c'.1:=Zy.1 ha.h3
 have eY:decide (0≤Y)=true:=dT0 hY.1
 have lY:Y.toNat<e.2.1.length:=by omega
 obtain ⟨x,gx⟩:=ZL e.2.1 X (by omega)
 have vx:=he.v x (List.mem_append_left _ (List.mem_append_left _ (mG0 gx)))
 obtain ⟨y,gy⟩:=ZL e.2.1 Y (by omega)
 have vy:=he.v y (List.mem_append_left _ (List.mem_append_left _ (mG0 gy)))
 have d1:=ZS9 op x y vx.1 vy.1
 have d2:=ZZ6 op x y vx.1 vy.1
 generalize doI op x y=r at d1 d2
 obtain ⟨z,o,w⟩:=r
 simp only at d1 d2
 cases o<;>cases w<;>cases k:decide (z.1>z.2)
 all_goals
  apply exO
  ·simp only [F_4,gx,gy,Zsc,d1,k,List.nil_append,List.length_nil,Nat.zero_add,List.length_set,limc V0,limc G0,limc A0,cond_true,cond_false,Zb,Bool.not_true,Bool.not_false,eT,eX,eY,look lT]
   rfl
  ·(simp only [R_4,Zp1,ZMo,gx,gy,ZyD,d2,k,Zw,HV e T z hT.1 (by omega) V0,eX,eY,show decide ((0:Int)<((0:Nat):Int))=false from rfl,List.nil_append,List.length_nil,Nat.zero_add,List.length_set,limc V0,limc G0,limc A0,cond_true,cond_false,Zb,Bool.not_true,Bool.not_false])<;>rfl
  ·refine ⟨⟨?_,?_,?_⟩,⟨?_,?_,?_⟩,?_,?_,?_⟩<;>simp only [List.length_set,List.length_nil,List.length_cons]<;>omega
theorem Z6I (u:U) (t n:Int) (e:E) (l:List En) (c:C) (T X Y G N op nx el:Int) (h0:0≤t) (hu:unitOK u) (hl:tabOK l) (hn:l.length≤1000) (he:envOK u t e) (hc:u.2.2.2[t.toNat]? = some c) (ha:actOK u c (7,T,X,Y,G,N,op,nx,el)):∃ o,bF u t n e l c (7,T,X,Y,G,N,op,nx,el)=some o∧bR u t n e l c (7,T,X,Y,G,N,op,nx,el)=some o∧VN o:=by
 obtain ⟨c',hc',hv⟩:=he.c
 obtain rfl:c'=c:=by rw [hc] at hc';exact (Option.some.inj hc').symm
 have cv:=(hu.ts c' (mG0 hc')).v
 have V0:e.2.1.length≤1000:=by omega
 have G0:e.2.2.1.length≤1000:=by rw [he.g];have:=hu.g;omega
 have A0:e.2.2.2.1.length≤1000:=by rw [he.a];have:=hu.a;omega
 have hE:=hl.e
 have hm:=he.must
 have hy:=he.may
 have hn':l.length<9223372036854775807:=by omega
 have hn2:l.length<1000000000000:=by omega
 have hT:0≤T∧T<c'.1:=Zy.1 ha.h1
 have eT:decide (0≤T)=true:=dT0 hT.1
 have lT:T.toNat<e.2.1.length:=by omega
 have hX:0≤X∧X<c'.1:=Zy.1 ha.h2
 have eX:decide (0≤X)=true:=dT0 hX.1
 have lX:X.toNat<e.2.1.length:=by omega
 obtain ⟨x,gx⟩:=ZL e.2.1 X (by omega)
 have vx:=he.v x (List.mem_append_left _ (List.mem_append_left _ (mG0 gx)))
 have hG:0≤G∧G<(u.2.1.length:Int):=Zy.1 ha.h4
 have eG:decide (0≤G)=true:=dT0 hG.1
 have lG:G.toNat<e.2.2.2.1.length:=by rw [he.a];omega
 obtain ⟨gd,hgd⟩:=ZL e.2.2.2.1 G (by rw [he.a];omega)
 obtain ⟨m,gm⟩:=ZL u.2.1 G hG
 have vm:=hu.ars m (mG0 gm)
 have hr:IntKind.i64.wrap (m - 1)=m - 1:=Znt (by omega) (by omega)
 have r0:Zd (0,m - 1)=false:=Z8 (by show (0:Int)≤m - 1;omega)
 have rB:isB (0,m - 1)=true:=by simp [isB,fitB];omega
 have q1:=Zkj x (0,m - 1)
 have q2:=ZkI x (0,m - 1)
 have q3:=W0 x (0,m - 1)
 have q4:=Zfd x (0,m - 1)
 rw [Zfc vx.2 r0] at q3
 have zB:=Znd (y:=x) (p:=(0,m - 1)) vx.1 rB
 generalize mSpan x (0,m - 1)=z at q3 q4 zB
 have wx:=HV e X z hX.1 (by omega) V0
 have r1:=Ztd u t (e.1,e.2.1.set X.toNat z,e.2.2) l true G gd hG.1 hgd hm hE hn'
 have r2:=ZIa t (e.1,e.2.1.set X.toNat z,e.2.2) l true G gd hG.1 hgd hm hE hn'
 have lT2:T.toNat<(e.2.1.set X.toNat z).length:=by rw [List.length_set];exact lT
 have wz (v:I):Zm1 (e.1,e.2.1.set X.toNat z,e.2.2) T v=some (e.1,(e.2.1.set X.toNat z).set T.toNat v,e.2.2):=HV (e.1,e.2.1.set X.toNat z,e.2.2) T v hT.1 (by show T<((e.2.1.set X.toNat z).length:Int);rw [List.length_set];omega) (by show (e.2.1.set X.toNat z).length≤1000;rw [List.length_set];exact V0)
 cases k1:leqB x (0,m - 1)<;>cases k2:decide (z.1>z.2)
 all_goals rw [k1] at q1 q2
 all_goals
  apply exO
  ·simp only [F_7,gm,gx,hr,QB,q1,ZH,q3,k2,Qe,r1,List.nil_append,List.length_nil,Nat.zero_add,List.length_set,limc V0,limc G0,limc A0,cond_true,cond_false,Zb,Bool.not_true,Bool.not_false,eT,eX,eG,look lX,look lT2]
   rfl
  ·(simp only [R_7,gm,gx,hr,JX,q2,ZY,q4,k2,Zw,wx,wz,Qm,r2,eX,eG,List.nil_append,List.length_nil,Nat.zero_add,List.length_set,limc V0,limc G0,limc A0,cond_true,cond_false,Zb,Bool.not_true,Bool.not_false])<;>rfl
  ·refine ⟨⟨?_,?_,?_⟩,⟨?_,?_,?_⟩,?_,?_,?_⟩<;>simp only [List.length_set,List.length_nil,List.length_cons,gmap,List.length_mapIdx]<;>omega
theorem Z6J (u:U) (t n:Int) (e:E) (l:List En) (c:C) (T X Y G N op nx el:Int) (h0:0≤t) (hu:unitOK u) (hl:tabOK l) (hn:l.length≤1000) (he:envOK u t e) (hc:u.2.2.2[t.toNat]? = some c) (ha:actOK u c (8,T,X,Y,G,N,op,nx,el)):∃ o,bF u t n e l c (8,T,X,Y,G,N,op,nx,el)=some o∧bR u t n e l c (8,T,X,Y,G,N,op,nx,el)=some o∧VN o:=by
 obtain ⟨c',hc',hv⟩:=he.c
 obtain rfl:c'=c:=by rw [hc] at hc';exact (Option.some.inj hc').symm
 have cv:=(hu.ts c' (mG0 hc')).v
 have V0:e.2.1.length≤1000:=by omega
 have G0:e.2.2.1.length≤1000:=by rw [he.g];have:=hu.g;omega
 have A0:e.2.2.2.1.length≤1000:=by rw [he.a];have:=hu.a;omega
 have hE:=hl.e
 have hm:=he.must
 have hy:=he.may
 have hn':l.length<9223372036854775807:=by omega
 have hn2:l.length<1000000000000:=by omega
 have hX:0≤X∧X<c'.1:=Zy.1 ha.h2
 have eX:decide (0≤X)=true:=dT0 hX.1
 have lX:X.toNat<e.2.1.length:=by omega
 have hY:0≤Y∧Y<c'.1:=Zy.1 ha.h3
 have eY:decide (0≤Y)=true:=dT0 hY.1
 have lY:Y.toNat<e.2.1.length:=by omega
 obtain ⟨x,gx⟩:=ZL e.2.1 X (by omega)
 have vx:=he.v x (List.mem_append_left _ (List.mem_append_left _ (mG0 gx)))
 obtain ⟨y,gy⟩:=ZL e.2.1 Y (by omega)
 have vy:=he.v y (List.mem_append_left _ (List.mem_append_left _ (mG0 gy)))
 have hG:0≤G∧G<(u.2.1.length:Int):=Zy.1 ha.h4
 have eG:decide (0≤G)=true:=dT0 hG.1
 have lG:G.toNat<e.2.2.2.1.length:=by rw [he.a];omega
 obtain ⟨gd,hgd⟩:=ZL e.2.2.2.1 G (by rw [he.a];omega)
 obtain ⟨m,gm⟩:=ZL u.2.1 G hG
 have vm:=hu.ars m (mG0 gm)
 have hr:IntKind.i64.wrap (m - 1)=m - 1:=Znt (by omega) (by omega)
 have r0:Zd (0,m - 1)=false:=Z8 (by show (0:Int)≤m - 1;omega)
 have rB:isB (0,m - 1)=true:=by simp [isB,fitB];omega
 have q1:=Zkj x (0,m - 1)
 have q2:=ZkI x (0,m - 1)
 have q3:=W0 x (0,m - 1)
 have q4:=Zfd x (0,m - 1)
 rw [Zfc vx.2 r0] at q3
 have zB:=Znd (y:=x) (p:=(0,m - 1)) vx.1 rB
 generalize mSpan x (0,m - 1)=z at q3 q4 zB
 have wx:=HV e X z hX.1 (by omega) V0
 obtain ⟨y',gy'⟩:=ZL (e.2.1.set X.toNat z) Y (by rw [List.length_set];omega)
 cases k1:leqB x (0,m - 1)<;>cases k2:decide (z.1>z.2)
 all_goals
  rw [k1] at q1 q2
  have yB:decide (z.1>z.2)=false→isB y'=true:=fun h=>by
   rcases List.mem_or_eq_of_mem_set (mG0 gy') with h1 | h1
   ·exact (he.v y' (List.mem_append_left _ (List.mem_append_left _ h1))).1
   ·rw [h1];exact zB h
  have JE:(Zg gd y'=rJoin gd y')∨decide (z.1>z.2)=true:=by
   cases h:decide (z.1>z.2)
   ·exact .inl (Zca (yB h))
   ·exact .inr rfl
  rw [k2] at JE
  simp only [Bool.true_eq_false,Bool.false_eq_true,or_false,or_true] at JE
 all_goals
  apply exO
  ·simp only [F_8,gm,gx,gy,gy',hgd,hr,QB,q1,ZH,q3,k2,ZM,WF,JE,List.nil_append,List.length_nil,Nat.zero_add,List.length_set,limc V0,limc G0,limc A0,cond_true,cond_false,Zb,Bool.not_true,Bool.not_false,eY,eX,eG,look lX]
   rfl
  ·(simp only [R_8,gm,gx,gy,gy',hgd,hr,JX,q2,ZY,q4,k2,Zw,wx,Zz,JP,eX,eY,eG,List.nil_append,List.length_nil,Nat.zero_add,List.length_set,limc V0,limc G0,limc A0,cond_true,cond_false,Zb,Bool.not_true,Bool.not_false])<;>rfl
  ·refine ⟨⟨?_,?_,?_⟩,⟨?_,?_,?_⟩,?_,?_,?_⟩<;>simp only [List.length_set,List.length_nil,List.length_cons,gmap,List.length_mapIdx]<;>omega
theorem Z50 (u:U) (t n:Int) (e:E) (l:List En) (c:C) (T X Y G N op nx el:Int) (h0:0≤t) (hu:unitOK u) (hl:tabOK l) (hn:l.length≤1000) (he:envOK u t e) (hc:u.2.2.2[t.toNat]? = some c) (ha:actOK u c (11,T,X,Y,G,N,op,nx,el)):∃ o,bF u t n e l c (11,T,X,Y,G,N,op,nx,el)=some o∧bR u t n e l c (11,T,X,Y,G,N,op,nx,el)=some o∧VN o:=by
 obtain ⟨c',hc',hv⟩:=he.c
 obtain rfl:c'=c:=by rw [hc] at hc';exact (Option.some.inj hc').symm
 have cv:=(hu.ts c' (mG0 hc')).v
 have V0:e.2.1.length≤1000:=by omega
 have G0:e.2.2.1.length≤1000:=by rw [he.g];have:=hu.g;omega
 have A0:e.2.2.2.1.length≤1000:=by rw [he.a];have:=hu.a;omega
 have hE:=hl.e
 have hm:=he.must
 have hy:=he.may
 have hn':l.length<9223372036854775807:=by omega
 have hn2:l.length<1000000000000:=by omega
 have hX:0≤X∧X<c'.1:=Zy.1 ha.h2
 have eX:decide (0≤X)=true:=dT0 hX.1
 have lX:X.toNat<e.2.1.length:=by omega
 have hY:0≤Y∧Y<c'.1:=Zy.1 ha.h3
 have eY:decide (0≤Y)=true:=dT0 hY.1
 have lY:Y.toNat<e.2.1.length:=by omega
 obtain ⟨x,gx⟩:=ZL e.2.1 X (by omega)
 have vx:=he.v x (List.mem_append_left _ (List.mem_append_left _ (mG0 gx)))
 obtain ⟨y,gy⟩:=ZL e.2.1 Y (by omega)
 have vy:=he.v y (List.mem_append_left _ (List.mem_append_left _ (mG0 gy)))
 obtain ⟨w,n1⟩:=ZML op
 have n2:ZMp op=some w:=n1
 have f1:=ZqL op x y vx.1 vy.1
 have f2:=ZEY op x y vx.1 vy.1
 have f3:=ZqL w x y vx.1 vy.1
 have f4:=ZEY w x y vx.1 vy.1
 have p1:=ZDA op x y
 have p3:=ZDA w x y
 generalize refI op x y=a at f1 f2 p1
 generalize refI w x y=b at f3 f4 p3
 have m1:=W0 a.1 a.2
 have m2:=Zfd a.1 a.2
 have m3:=W0 b.1 b.2
 have m4:=Zfd b.1 b.2
 rw [p1] at m1
 rw [p3] at m3
 generalize mSpan a.1 a.2=z at m1 m2
 generalize mSpan b.1 b.2=o at m3 m4
 have lY2 (v:I):Y.toNat<(e.2.1.set X.toNat v).length:=by rw [List.length_set];exact lY
 have w1 (v:I):=HV e X v hX.1 (by omega) V0
 have w2 (v v':I):Zm1 (e.1,e.2.1.set X.toNat v,e.2.2) Y v'=some (e.1,(e.2.1.set X.toNat v).set Y.toNat v',e.2.2):=HV (e.1,e.2.1.set X.toNat v,e.2.2) Y v' hY.1 (by show Y<((e.2.1.set X.toNat v).length:Int);rw [List.length_set];omega) (by show (e.2.1.set X.toNat v).length≤1000;rw [List.length_set];exact V0)
 cases kXY:X==Y
 ·cases k1:decide (a.1.1>a.1.2)<;>cases k2:decide (a.2.1>a.2.2)<;>cases k3:decide (b.1.1>b.1.2)<;>cases k4:decide (b.2.1>b.2.2)
  all_goals
   apply exO
   ·simp only [ZXW,gx,gy,ZX,f1,f3,Q7,n1,ZH,m1,m3,kXY,Znu,Zqs,List.nil_append,List.length_nil,Nat.zero_add,List.length_set,limc V0,limc G0,limc A0,cond_true,cond_false,Zb,Bool.not_true,Bool.not_false,eX,eY,look lX,look (lY2 _),k1,k2,k3,k4]
    rfl
   ·(simp only [Z32,ZcA,Zw0,gx,gy,Zli,f2,f4,Zny,n2,ZY,m2,m4,kXY,Zw,w1,w2,eX,eY,List.nil_append,List.length_nil,Nat.zero_add,List.length_set,limc V0,limc G0,limc A0,cond_true,cond_false,Zb,Bool.not_true,Bool.not_false,k1,k2,k3,k4])<;>rfl
   ·refine ⟨⟨?_,?_,?_⟩,⟨?_,?_,?_⟩,?_,?_,?_⟩<;>simp only [List.length_set,List.length_nil,List.length_cons]<;>omega
 ·cases k1:decide (z.1>z.2)<;>cases k3:decide (o.1>o.2)
  all_goals
   apply exO
   ·simp only [ZXW,gx,gy,ZX,f1,f3,Q7,n1,ZH,m1,m3,kXY,Znu,Zqs,List.nil_append,List.length_nil,Nat.zero_add,List.length_set,limc V0,limc G0,limc A0,cond_true,cond_false,Zb,Bool.not_true,Bool.not_false,eX,eY,look lX,look (lY2 _),k1,k3]
    rfl
   ·(simp only [Z32,ZcA,Zw0,gx,gy,Zli,f2,f4,Zny,n2,ZY,m2,m4,kXY,Zw,w1,w2,eX,eY,List.nil_append,List.length_nil,Nat.zero_add,List.length_set,limc V0,limc G0,limc A0,cond_true,cond_false,Zb,Bool.not_true,Bool.not_false,k1,k3])<;>rfl
   ·refine ⟨⟨?_,?_,?_⟩,⟨?_,?_,?_⟩,?_,?_,?_⟩<;>simp only [List.length_set,List.length_nil,List.length_cons]<;>omega
section
open Go.Proofs
theorem ZOf {x y:I} (hx:isB x=true) (hy:isB y=true):isB (Zg x y)=true:=by rw [Zca hy];exact ZkJ hx hy
theorem ZDi (r:I):isB (iMeet r aa)=true:=by
 cases h:Zd (iMeet r aa)
 ·obtain ⟨e,_,_,h4⟩:=Zw5 h
  rw [e]
  refine Zjv ?_ h4 ?_<;>simp only [aa,mx,mn]<;>omega
 ·unfold iMeet at h ⊢
  repeat' split at h
  all_goals first | (rename_i k1 k2 k3;rw [if_neg k1,if_neg k2,if_neg k3];exact absurd h k3) | skip
  all_goals (repeat' split)<;>first | rfl | contradiction
theorem Z4M {x y:I} (hx:isB x=true) (ex:Zd x=false):isB (remI x y)=true:=by
 unfold remI
 split
 ·rfl
 rename_i h0
 obtain ⟨k1,k2⟩:=Zjw hx (ZS ex)
 have kx:=ZS ex
 refine Zjv ?_ ?_ ?_<;>simp only [mx,mn]<;>(repeat' split)<;>omega
theorem Z4E (x y:I):isB (quoV x y).1=true:=by
 have h1:isB (ZqT x y).1=true:=by
  unfold ZqT
  split
  ·rfl
  ·exact ZOf ZYu (ZDi _)
 unfold quoV
 split
 ·exact h1
 ·exact ZOf h1 (ZDi _)
theorem Z4f (op:Int) {x y:I} (hx:isB x=true):isB (doI op x y).1=true:=by
 unfold doI
 split
 ·rfl
 rename_i h
 simp only [Bool.or_eq_true,not_or,Bool.not_eq_true] at h
 (repeat' split)<;>first | exact ZDi _ | exact Z4E _ _ | exact Z4M hx h.1
theorem ZWi {x y c d:I} (hc:Zd c=false→isB c=true) (hd:Zd d=false→isB d=true):isB (both x y c d).1=true∧isB (both x y c d).2=true:=by
 unfold both
 split
 ·exact ⟨rfl,rfl⟩
 ·rename_i h
  simp only [Bool.or_eq_true,not_or,Bool.not_eq_true] at h
  exact ⟨hc h.1.2,hd h.2⟩
theorem Z3o (r:Int) {x y:I} (hx:isB x=true) (hy:isB y=true) (ex:Zd x=false) (ey:Zd y=false):isB (refI r x y).1=true∧isB (refI r x y).2=true:=by
 obtain ⟨x1,x2⟩:=Zjw hx (ZS ex)
 obtain ⟨y1,y2⟩:=Zjw hy (ZS ey)
 have kx:=ZS ex
 have ky:=ZS ey
 have hm:Zd (iMeet x y)=false→isB (iMeet x y)=true:=Z1H hx hy
 unfold refI
 (repeat' split)<;>first | exact ⟨rfl,rfl⟩ | exact ZWi hm hm | skip
 all_goals
  refine ZWi (fun k=>?_) (fun k=>?_)<;>have k':=ZS k<;>revert k'<;>simp only [wout,mx,mn]<;>(repeat' split)<;>intro k'<;>first | exact Zjv (by omega) (by omega) (by omega) | exact Zjv (a:=x.1) (b:=x.2) (by omega) (by omega) (by omega) | exact Zjv (a:=y.1) (b:=y.2) (by omega) (by omega) (by omega)
theorem ZXL {x:I} {m:Int} (hx:isB x=true) (hm:1≤m∧m≤2147483648) (h:Zd (mSpan x (0,m - 1))=false):isB (mSpan x (0,m - 1))=true:=
 Znd hx (Zjv (by omega) (by omega) (by omega)) h
variable {u:U} {t n:Int} {e:E} {l:List En} {c:C}
theorem ZAA (he:envOK u t e) {b:Bool} {V G A:List I} {m y:Int} (hV:V.length=e.2.1.length) (hG:G.length=e.2.2.1.length) (hA:A.length=e.2.2.2.1.length)
  (v:∀ x∈V,isB x=true∧Zd x=false) (g:∀ x∈G,isB x=true∧Zd x=false) (a:∀ x∈A,isB x=true∧Zd x=false) (hm:0≤m∧m<2147483648) (hy:0≤y∧y<2147483648):envOK u t (b,V,G,A,m,y):=by
 obtain ⟨c,hc,hl⟩:=he.c
 refine ⟨⟨c,hc,by simp only [hV];exact hl⟩,by simp only [hG];exact he.g,by simp only [hA];exact he.a,hm,hy,fun x hx=>?_⟩
 simp only [List.mem_append] at hx
 rcases hx with (k | k) | k
 ·exact v x k
 ·exact g x k
 ·exact a x k
theorem envV (he:envOK u t e):∀ x∈e.2.1,isB x=true∧Zd x=false:=fun x k=>he.v x (by simp [k])
theorem envG (he:envOK u t e):∀ x∈e.2.2.1,isB x=true∧Zd x=false:=fun x k=>he.v x (by simp [k])
theorem envA (he:envOK u t e):∀ x∈e.2.2.2.1,isB x=true∧Zd x=false:=fun x k=>he.v x (by simp [k])
theorem ZM0 {L:List I} (h:∀ x∈L,isB x=true∧Zd x=false) (i:Nat) {v:I} (hv:isB v=true∧Zd v=false):∀ x∈L.set i v,isB x=true∧Zd x=false:=fun x k=>by
 rcases List.mem_or_eq_of_mem_set k with k | rfl
 ·exact h x k
 ·exact hv
theorem Zfz (he:envOK u t e) (T:Int) {v:I} (hv:isB v=true∧Zd v=false):envOK u t (setE e T v):=
 ZAA he (by simp) rfl rfl (ZM0 (envV he) _ hv) (envG he) (envA he) he.must he.may
theorem ZXy {d:I} (hd:isB d=true∧Zd d=false) (hl:∀ x∈l,entOK x) (ar:Bool) (g h:Int):isB (readV d l t ar g h)=true∧Zd (readV d l t ar g h)=false:=
 ⟨ZkJ hd.1 (ZTA hl),(ZdW (QE.2 (.inr (Zpk hd.2))) hd.2).2⟩
end
def Ztb (a0:List I) (a1:Int):Option I:=bif decide (a1<(a0.length:Int)) then bif decide (0≤a1) then Za a0[a1.toNat]? none fun d3=>some (d3.1,d3.2) else none else some (1,0)
def YB (x:(List I)×(Int×Unit)):Option I:=Ztb x.1 x.2.1
def leR (a b:List I):Prop:=a.length=b.length∧∀ (i:Nat) (x y:I),a[i]? = some x→b[i]? = some y→leqB x y=true
structure leE (x y:E):Prop where
 on:y.1=true
 v:leR x.2.1 y.2.1
 g:leR x.2.2.1 y.2.2.1
 a:leR x.2.2.2.1 y.2.2.2.1
 must:subB y.2.2.2.2.1 x.2.2.2.2.1
 may:subB x.2.2.2.2.2 y.2.2.2.2.2
def leO (x y:E):Prop:=x.1=true→leE x y
def okB (n:Int):Prop:=0≤n∧n<2147483648
theorem ZWh (m:Int):0≤bitV m∧bitV m<2147483648:=by
 obtain ⟨k,h1,h2,_⟩:=ZCl m
 omega
theorem ZpX (s m:Int) (hs:okB s):okB (woI s m)∧∀ i,(woI s m).toNat.testBit i=(s.toNat.testBit i && !(bitV m).toNat.testBit i):=by
 unfold okB at *
 have hb:=ZWh m
 obtain ⟨r,h1,h2,h3⟩:=ZKY (a:=s.toNat) (b:=(bitV m).toNat) (by omega) (by omega)
 have e1:((s.toNat:Nat):Int)=s:=by omega
 have e2:(((bitV m).toNat:Nat):Int)=bitV m:=by omega
 rw [e1,e2] at h1
 unfold woI
 rw [h1]
 refine ⟨by omega,fun i=>?_⟩
 rw [tN0]
 exact h3 i
theorem ZpW (s m:Int) (hs:okB s):okB (wiI s m)∧∀ i,(wiI s m).toNat.testBit i=(s.toNat.testBit i||(bitV m).toNat.testBit i):=by
 unfold okB at *
 have hb:=ZWh m
 unfold wiI
 have:s.toNat ||| (bitV m).toNat<2 ^ 31:=Nat.or_lt_two_pow (by omega) (by omega)
 refine ⟨by omega,fun i=>?_⟩
 rw [tN0,Nat.testBit_or]
end
end Go.Proofs.YtbdcblpjemmipaaGreat.Ex
