/- A part of the proofs of what is known of threads: GI. -/
import Derived.Test.YtbdcblpjemmipaaGreatGH
import Derived.Test.YtbdcblpjemmipaaGreatGF
import Derived.Test.YtbdcblpjemmipaaGreatGC
import Derived.Test.YtbdcblpjemmipaaGreatGD
import Derived.Test.YtbdcblpjemmipaaGreatGG
namespace Go.Proofs.YtbdcblpjemmipaaGreat.Ex
open Go.Proofs
set_option maxRecDepth 100000
set_option maxHeartbeats 4000000
set_option linter.unusedVariables false
set_option linter.unusedSimpArgs false
set_option linter.unusedSectionVars false
noncomputable section
def numA (a:A):List Int:=bif a.1==1 then [a.2.2.2.2.2.1,a.2.2.2.2.2.1 - 1,a.2.2.2.2.2.1+1] else []
def numC (c:C):List Int:=c.2.flatMap numA
def numD (d:Int):List Int:=[d,d - 1]
def allN (u:U):List Int:=u.1++(u.2.1.flatMap numD++u.2.2.2.flatMap numC)
theorem ZBk {α:Type} {f:List Int→α→List Int} {g:α→List Int} (h:∀ l a,f l a=(g a).foldl layS l):∀ (r:List α) (l:List Int),r.foldl f l=(r.flatMap g).foldl layS l
 | [],l=>rfl
 | a::r,l=>by rw [List.foldl_cons,h,ZBk h r,List.flatMap_cons,List.foldl_append]
theorem ZG5 (u:U):ZJ u=(allN u).foldl layS [-1,0,1]:=by
 have h1:∀ (l:List Int) (a:A),actS l a=(numA a).foldl layS l:=fun l a=>by
  unfold actS numA
  cases a.1==1<;>rfl
 have h2:∀ (l:List Int) (c:C),thrS l c=(numC c).foldl layS l:=fun l c=>ZBk h1 c.2 l
 unfold ZJ allN
 rw [List.foldl_append,List.foldl_append,ZBk h2,ZBk (f:=arrS) (g:=numD) fun l d=>rfl]
theorem ZYb (u:U):(ZJ u).Pairwise (· < ·):=by
 rw [ZG5]
 exact ZRA _ (by simp)
theorem ZZr (u:U) (x:Int):x∈ZJ u↔(x∈allN u∧fitB x=true)∨x∈([-1,0,1]:List Int):=by rw [ZG5,ZUa]
section
open Go.Proofs Go.Proofs.YtbdcblpjemmipaaGreat
def ZHb:List Sh:=[.dat tU]
def Zo9:Nat→List Nat:=fun c=>bif c.beq 0 then [1,3,15,16,17] else [1,3]
def Zpb:Nat→List Nat:=fun c=>bif c.beq 0 then [3,29,30,31,36,37,38] else [3,29,30,31]
def Zpa:Nat→List Nat:=fun c=>bif c.beq 0 then [3,29,30,31] else [3]
def ZnT:Nat→List Nat:=fun c=>bif c.beq 0 then [0,1,7,8] else [4]
def Zpc:Nat→List Nat:=fun c=>bif c.beq 0 then [0,1,5,6] else [0,5]
def Ye:List Con:=[⟨70,ZtM,ZJj⟩,⟨71,ZpP,ZCW⟩]
def VD:StS:=⟨[(1,.ptr 0 0),(3,.row 1),(15,.sl (.int .i64)),(16,.int .i64),(17,.int .i64)],[(0,.box [.sl (.int .i64),.sl (.int .i64),.int .i64,.sl tC]),(1,.row (.int .i64))],2⟩
def Wd:StS:=⟨[(1,.ptr 0 0),(3,.row 1)],[(0,.box [.sl (.int .i64),.sl (.int .i64),.int .i64,.sl tC]),(1,.row (.int .i64))],2⟩
abbrev Ve:=((List Int)×Int×Int×(List Int)×(List Int)×Int×(List C)×(List Int))
def ZtN:StD VD→Ve:=fun ((_,_,a,b,c,_),((d,e,f,g,_),h,_))=>(a,b,c,d,e,f,g,h)
def ZmO:Ve→StD VD:=fun (a,b,c,d,e,f,g,h)=>(((),(),a,b,c,()),((d,e,f,g,()),h,()))
abbrev Kn:=((List Int)×(List Int)×Int×(List C)×(List Int))
def ZDM:StD Wd→Kn:=fun ((_,_,_),((a,b,c,d,_),e,_))=>(a,b,c,d,e)
def Zjx:Kn→StD Wd:=fun (a,b,c,d,e)=>(((),(),()),((a,b,c,d,()),e,()))
def ZcJ (s15:List Int) (s16 s17:Int) (b0 b0_1:List Int) (b0_2:Int) (b0_3:List C) (b1:List Int):Option (((List Int)×Int×Int×(List Int)×(List Int)×Int×(List C)×(List Int))⊕((List Int)×(List Int)×Int×(List C)×(List Int))):=
 bif decide (s17<s16) then
 bif decide (0≤s17) then
 optC s15[s17.toNat]? none fun d14=>
 bif decide ((b1.length+[d14,IntKind.i64.wrap (d14 - 1)].length+1)*8≤lim) then
 some (Sum.inl (s15,s16,IntKind.i64.wrap (s17+1),b0,b0_1,b0_2,b0_3,b1++[d14,IntKind.i64.wrap (d14 - 1)]))
 else none
 else none
 else some (Sum.inr (b0,b0_1,b0_2,b0_3,b1))
def ZmD:Ve→Option (Ve⊕Kn):=fun (a,b,c,d,e,f,g,h)=>ZcJ a b c d e f g h
theorem ZIN (x:Ve):rdX (cxU Ye [] 40 1048576) keeps 8 ⟨43,64,keeps 43,0⟩ 0 (bodyX 43 0) 0 Zo9 (sT VD (ZmO x)) (sH VD (ZmO x)) (rdO (fun T h=>(rdS VD T h).map ZtN) (getE 2 Wd ZDM))=ZmD x:=by kernel_rfl
def Zdp (x:Ve):Option Kn:=iterO ZmD Zj x
def ZzQ:Nat→Tm→Prog (Nat×Tm):=(varP 0 (fun T h=>(rdS VD T h).map ZtN) Zdp (altE 2 Wd Zjx) (fun _ _=>.fail))
def QN:Lpc:=⟨43,0,64,(fun base T=>.norm base (Zo9 0) T (ZzQ base)),by kernel_rfl,by kernel_rfl,(loopU Ye [] 40 1048576 8 (keep:=Zo9) (q:=ZzQ) (by kernel_rfl) (Zp (s:=VD) (un:=ZmO) (by rfl) (fun _=>rfl) (Zi (s:=Wd) (un:=Zjx) (by rfl) (fun _=>rfl)) (step:=ZmD) ZIN (fun _ _ e=>⟨_,e⟩) (Zh 2 Wd Zjx) (ZA.fail _ _)))⟩
abbrev ZLE:=cxU Ye [QN] 40 1048576
def VF:StS:=⟨[(3,.row 0),(29,.sl tC),(30,.int .i64),(31,.int .i64),(36,.sl tA),(37,.int .i64),(38,.int .i64)],[(0,.row (.int .i64))],1⟩
def Wf:StS:=⟨[(3,.row 0),(29,.sl tC),(30,.int .i64),(31,.int .i64)],[(0,.row (.int .i64))],1⟩
abbrev Vf:=((List C)×Int×Int×(List A)×Int×Int×(List Int))
def ZtP:StD VF→Vf:=fun ((_,a,b,c,d,e,f,_),(g,_))=>(a,b,c,d,e,f,g)
def ZmQ:Vf→StD VF:=fun (a,b,c,d,e,f,g)=>(((),a,b,c,d,e,f,()),(g,()))
abbrev Ko:=((List C)×Int×Int×(List Int))
def ZDO:StD Wf→Ko:=fun ((_,a,b,c,_),(d,_))=>(a,b,c,d)
def Zjz:Ko→StD Wf:=fun (a,b,c,d)=>(((),a,b,c,()),(d,()))
def Hn (s29:List C) (s30 s31:Int) (s36:List A) (s37 s38:Int) (b0:List Int):Option (((List C)×Int×Int×(List A)×Int×Int×(List Int))⊕((List C)×Int×Int×(List Int))):=
 bif decide (s38<s37) then
 bif decide (0≤s38) then
 optC s36[s38.toNat]? none fun d13=>
 bif d13.1==1 then
 bif
 decide
 ((b0.length+[IntKind.i64.wrap (d13.2.2.2.2.2.1 - 1),d13.2.2.2.2.2.1,IntKind.i64.wrap (d13.2.2.2.2.2.1+1)].length+1)*8≤
 lim) then
 some
 (Sum.inl
 (s29,s30,s31,s36,s37,IntKind.i64.wrap (s38+1),
 b0++[IntKind.i64.wrap (d13.2.2.2.2.2.1 - 1),d13.2.2.2.2.2.1,IntKind.i64.wrap (d13.2.2.2.2.2.1+1)]))
 else none
 else some (Sum.inl (s29,s30,s31,s36,s37,IntKind.i64.wrap (s38+1),b0))
 else none
 else some (Sum.inr (s29,s30,s31,b0))
def Zac:Vf→Option (Vf⊕Ko):=fun (a,b,c,d,e,f,g)=>Hn a b c d e f g
theorem ZIP (x:Vf):rdX ZLE keeps 8 ⟨43,64,keeps 43,0⟩ 4 (bodyX 43 4) 0 Zpb (sT VF (ZmQ x)) (sH VF (ZmQ x)) (rdO (fun T h=>(rdS VF T h).map ZtP) (getE 6 Wf ZDO))=Zac x:=by kernel_rfl
def ZaZ (x:Vf):Option Ko:=iterO Zac Zj x
def ZzS:Nat→Tm→Prog (Nat×Tm):=(varP 0 (fun T h=>(rdS VF T h).map ZtP) ZaZ (altE 6 Wf Zjz) (fun _ _=>.fail))
def Yy:Lpc:=⟨43,4,64,(fun base T=>.norm base (Zpb 0) T (ZzS base)),by kernel_rfl,by kernel_rfl,(loopU Ye [QN] 40 1048576 8 (keep:=Zpb) (q:=ZzS) (by kernel_rfl) (Zp (s:=VF) (un:=ZmQ) (by rfl) (fun _=>rfl) (Zi (s:=Wf) (un:=Zjz) (by rfl) (fun _=>rfl)) (step:=Zac) ZIP (fun _ _ e=>⟨_,e⟩) (Zh 6 Wf Zjz) (ZA.fail _ _)))⟩
abbrev ZLD:=cxU Ye [QN,Yy] 40 1048576
def VE:StS:=⟨[(3,.row 0),(29,.sl tC),(30,.int .i64),(31,.int .i64)],[(0,.row (.int .i64))],1⟩
def We:StS:=⟨[(3,.row 0)],[(0,.row (.int .i64))],1⟩
abbrev Za2:=((List C)×Int×Int×(List Int))
def ZtO:StD VE→Za2:=fun ((_,a,b,c,_),(d,_))=>(a,b,c,d)
def ZmP:Za2→StD VE:=fun (a,b,c,d)=>(((),a,b,c,()),(d,()))
abbrev ZeE:=(List Int)
def ZDN (d:StD We):ZeE:=(d.2.1)
def Zjy (x:ZeE):StD We:=(((),()),(x,()))
def ZmA (s29:List C) (s30 s31:Int) (b0:List Int):Option (((List C)×Int×Int×(List Int))⊕(List Int)):=
 bif decide (s31<s30) then
 bif decide (0≤s31) then
 optC s29[s31.toNat]? none fun d10=>
 optC (ZaZ (s29,s30,s31,d10.2,(↑(List.length d10.2):Int),0,b0)) none fun d11=>
 some (Sum.inl (d11.1,d11.2.1,IntKind.i64.wrap (d11.2.2.1+1),d11.2.2.2))
 else none
 else some (Sum.inr b0)
def Zab:Za2→Option (Za2⊕ZeE):=fun (a,b,c,d)=>ZmA a b c d
theorem ZIO (x:Za2):rdX ZLD keeps 8 ⟨43,64,keeps 43,0⟩ 2 (bodyX 43 2) 0 Zpa (sT VE (ZmP x)) (sH VE (ZmP x)) (rdO (fun T h=>(rdS VE T h).map ZtO) (getE 4 We ZDN))=Zab x:=by kernel_rfl
def ZgK (x:Za2):Option ZeE:=iterO Zab Zj x
def ZzR:Nat→Tm→Prog (Nat×Tm):=(varP 0 (fun T h=>(rdS VE T h).map ZtO) ZgK (altE 4 We Zjy) (fun _ _=>.fail))
def Zcj:Lpc:=⟨43,2,64,(fun base T=>.norm base (Zpa 0) T (ZzR base)),by kernel_rfl,by kernel_rfl,(loopU Ye [QN,Yy] 40 1048576 8 (keep:=Zpa) (q:=ZzR) (by kernel_rfl) (Zp (s:=VE) (un:=ZmP) (by rfl) (fun _=>rfl) (Zi (s:=We) (un:=Zjy) (by rfl) (fun _=>rfl)) (step:=Zab) ZIO (fun _ _ e=>⟨_,e⟩) (Zh 4 We Zjy) (ZA.fail _ _)))⟩
abbrev ZJ1:=cxU Ye [QN,Yy,Zcj] 40 1048576
def YW:StS:=⟨[(0,.row 0),(1,.clo 68 [] []),(7,.int .i64),(8,.int .i64)],[(0,.row (.int .i64))],1⟩
def Hz:StS:=⟨[(4,.undef)],[(0,.row (.int .i64))],1⟩
def HA:StS:=⟨[(4,.int .i64)],[(0,.row (.int .i64))],1⟩
abbrev YB:=(Int×Int×(List Int))
def ZrY:StD YW→YB:=fun ((_,(_,_),a,b,_),(c,_))=>(a,b,c)
def Zlg:YB→StD YW:=fun (a,b,c)=>(((),((),()),a,b,()),(c,()))
abbrev Jv:=(List Int)
def ZB5 (d:StD Hz):Jv:=(d.2.1)
def ZhG (x:Jv):StD Hz:=(((),()),(x,()))
abbrev Jw:=(Int×(List Int))
def ZB6 (d:StD HA):Jw:=(d.1.1,d.2.1)
def ZhH (x:Jw):StD HA:=((x.1,()),(x.2,()))
def K5 (s7 s8:Int) (b0:List Int):Option ((Int×Int×(List Int))⊕((List Int)⊕(Int×(List Int)))):=
 bif decide (s8<s7) then
 bif decide (0≤s8) then
 optC b0[s8.toNat]? none fun d9=>
 optC b0[s8.toNat]? none fun d10=>
 bif decide (d10 < -2147483648) then some (Sum.inr (Sum.inr (s8,b0)))
 else bif decide (d10>2147483647) then some (Sum.inr (Sum.inr (s8,b0))) else some (Sum.inl (s7,IntKind.i64.wrap (s8+1),b0))
 else none
 else some (Sum.inr (Sum.inl b0))
def Qm:YB→Option (YB⊕(Jv⊕Jw)):=fun (a,b,c)=>K5 a b c
theorem ZGg (x:YB):rdX ZJ1 keeps 8 ⟨103,19,keeps 103,1⟩ 0 (bodyX 103 0) 1 ZnT (sT YW (Zlg x)) (sH YW (Zlg x)) (rdO (fun T h=>(rdS YW T h).map ZrY) (getOr (getE 2 Hz ZB5) (getE 1 HA ZB6)))=Qm x:=by kernel_rfl
def Jr (x:YB):Option (Jv⊕Jw):=iterO Qm Zj x
def Zxx:Nat→Tm→Prog (Nat×Tm):=(varP 1 (fun T h=>(rdS YW T h).map ZrY) Jr (fun y=>.alt y (altE 2 Hz ZhG) (altE 1 HA ZhH)) (fun _ _=>.fail))
def Zhd:Lpc:=⟨103,0,19,(fun base T=>.norm base (ZnT 0) T (Zxx base)),by kernel_rfl,by kernel_rfl,(loopU Ye [QN,Yy,Zcj] 40 1048576 8 (keep:=ZnT) (q:=Zxx) (by kernel_rfl) (Zp (s:=YW) (un:=Zlg) (by rfl) (fun _=>rfl) (ZR (Zi (s:=Hz) (un:=ZhG) (by rfl) (fun _=>rfl)) (Zi (s:=HA) (un:=ZhH) (by rfl) (fun _=>rfl))) (step:=Qm) ZGg (fun _ _ e=>⟨_,e⟩) (ZQ (Zh 2 Hz ZhG) (Zh 1 HA ZhH)) (ZA.fail _ _)))⟩
abbrev ZLF:=cxU Ye [QN,Yy,Zcj,Zhd] 40 1048576
def VG:StS:=⟨[(0,.row 0),(1,.clo 68 [] []),(5,.int .i64),(6,.int .i64)],[(0,.row (.int .i64))],1⟩
def Wg:StS:=⟨[(0,.row 0),(5,.int .i64)],[(0,.row (.int .i64))],1⟩
abbrev Za3:=(Int×Int×(List Int))
def ZtQ:StD VG→Za3:=fun ((_,(_,_),a,b,_),(c,_))=>(a,b,c)
def ZmR:Za3→StD VG:=fun (a,b,c)=>(((),((),()),a,b,()),(c,()))
abbrev ZeF:=(Int×(List Int))
def ZDP (d:StD Wg):ZeF:=(d.1.2.1,d.2.1)
def ZjA (x:ZeF):StD Wg:=(((),x.1,()),(x.2,()))
def ZmB (s5 s6:Int) (b0:List Int):Option ((Int×Int×(List Int))⊕(Int×(List Int))):=
 bif decide (s6<(↑b0.length:Int)) then
 bif decide (0≤s6) then
 optC b0[s6.toNat]? none fun d9=>
 optC b0[s6.toNat]? none fun d10=>
 bif decide (d10 < -2147483648) then some (Sum.inl (s5,IntKind.i64.wrap (s6+1),b0))
 else
 bif decide (d10>2147483647) then some (Sum.inl (s5,IntKind.i64.wrap (s6+1),b0))
 else
 bif decide (0≤s5) then
 optC b0[s5.toNat]? none fun d11=>
 optC b0[s5.toNat]? none fun d12=>some (Sum.inl (IntKind.i64.wrap (s5+1),IntKind.i64.wrap (s6+1),b0.set s5.toNat d10))
 else none
 else none
 else some (Sum.inr (s5,b0))
def QI:Za3→Option (Za3⊕ZeF):=fun (a,b,c)=>ZmB a b c
theorem ZIQ (x:Za3):rdX ZLF keeps 8 ⟨67,42,keeps 67,1⟩ 0 (bodyX 67 0) 1 Zpc (sT VG (ZmR x)) (sH VG (ZmR x)) (rdO (fun T h=>(rdS VG T h).map ZtQ) (getE 2 Wg ZDP))=QI x:=by kernel_rfl
def ZgL (x:Za3):Option ZeF:=iterO QI Zj x
def ZzT:Nat→Tm→Prog (Nat×Tm):=(varP 1 (fun T h=>(rdS VG T h).map ZtQ) ZgL (altE 2 Wg ZjA) (fun _ _=>.fail))
def Zxm:Lpc:=⟨67,0,42,(fun base T=>.norm base (Zpc 0) T (ZzT base)),by kernel_rfl,by kernel_rfl,(loopU Ye [QN,Yy,Zcj,Zhd] 40 1048576 8 (keep:=Zpc) (q:=ZzT) (by kernel_rfl) (Zp (s:=VG) (un:=ZmR) (by rfl) (fun _=>rfl) (Zi (s:=Wg) (un:=ZjA) (by rfl) (fun _=>rfl)) (step:=QI) ZIQ (fun _ _ e=>⟨_,e⟩) (Zh 2 Wg ZjA) (ZA.fail _ _)))⟩
def ZpX (a0:U):Option (List Int):=
 bif decide (([-1,0,1].length+List.length a0.1+1)*8≤lim) then
 optC (Zdp (a0.2.1,(↑(List.length a0.2.1):Int),0,a0.1,a0.2.1,a0.2.2.1,a0.2.2.2,[-1,0,1]++a0.1)) none fun d7=>
 optC (ZgK (d7.2.2.2.1,(↑d7.2.2.2.1.length:Int),0,d7.2.2.2.2)) none fun d8=>
 optC (Jr ((↑d8.length:Int),0,d8)) none fun d9=>
 Sum.elim
 (fun e10=>
 bif decide (e10.length<4611686018427387904) then
 bif decide ((srtI e10).length<4611686018427387904) then
 some (List.drop 0 (List.take (Lib.compact (List.take (srtI e10).length (srtI e10))).length (cutI (srtI e10) (srtI e10).length)))
 else none
 else none)
 (fun e10=>
 bif e10.1 == -1 then
 bif decide (e10.2.length<4611686018427387904) then
 bif decide ((srtI e10.2).length<4611686018427387904) then
 some
 (List.drop 0 (List.take (Lib.compact (List.take (srtI e10.2).length (srtI e10.2))).length (cutI (srtI e10.2) (srtI e10.2).length)))
 else none
 else none
 else
 optC (ZgL (e10.1,IntKind.i64.wrap (e10.1+1),e10.2)) none fun d11=>
 bif decide (0≤d11.1∧d11.1≤(↑d11.2.length:Int)∧(↑d11.2.length:Int)≤(↑d11.2.length:Int)) then
 bif decide ((↑d11.2.length:Int).toNat≤d11.1.toNat) then
 bif decide ((0:Int)≤0∧0≤d11.1∧d11.1≤(↑d11.2.length:Int)) then
 bif decide (d11.1.toNat≤d11.2.length∧d11.2.length<4611686018427387904) then
 bif
 decide
 (d11.1.toNat≤(srtI (List.take d11.1.toNat d11.2)++List.drop d11.1.toNat d11.2).length ∧
 (srtI (List.take d11.1.toNat d11.2)++List.drop d11.1.toNat d11.2).length<4611686018427387904) then
 some
 (List.drop 0
 (List.take (Lib.compact (List.take d11.1.toNat (srtI (List.take d11.1.toNat d11.2)++List.drop d11.1.toNat d11.2))).length
 (cutI (srtI (List.take d11.1.toNat d11.2)++List.drop d11.1.toNat d11.2) d11.1.toNat)))
 else none
 else none
 else none
 else
 bif decide ((↑d11.2.length:Int).toNat≤d11.2.length) then
 bif
 decide
 ((0:Int)≤0 ∧
 0≤d11.1 ∧
 d11.1≤
 (↑(List.take d11.1.toNat d11.2++List.replicate ((↑d11.2.length:Int).toNat - d11.1.toNat) 0++List.drop (↑d11.2.length:Int).toNat d11.2).length :
 Int)) then
 bif
 decide
 (d11.1.toNat≤
 (List.take d11.1.toNat d11.2++List.replicate ((↑d11.2.length:Int).toNat - d11.1.toNat) 0++List.drop (↑d11.2.length:Int).toNat d11.2).length ∧
 (List.take d11.1.toNat d11.2++List.replicate ((↑d11.2.length:Int).toNat - d11.1.toNat) 0++List.drop (↑d11.2.length:Int).toNat d11.2).length <
 4611686018427387904) then
 bif
 decide
 (d11.1.toNat≤
 (srtI
 (List.take d11.1.toNat
 (List.take d11.1.toNat d11.2++List.replicate ((↑d11.2.length:Int).toNat - d11.1.toNat) 0++List.drop (↑d11.2.length:Int).toNat d11.2)) ++
 List.drop d11.1.toNat
 (List.take d11.1.toNat d11.2++List.replicate ((↑d11.2.length:Int).toNat - d11.1.toNat) 0 ++
 List.drop (↑d11.2.length:Int).toNat d11.2)).length ∧
 (srtI
 (List.take d11.1.toNat
 (List.take d11.1.toNat d11.2++List.replicate ((↑d11.2.length:Int).toNat - d11.1.toNat) 0++List.drop (↑d11.2.length:Int).toNat d11.2)) ++
 List.drop d11.1.toNat
 (List.take d11.1.toNat d11.2++List.replicate ((↑d11.2.length:Int).toNat - d11.1.toNat) 0 ++
 List.drop (↑d11.2.length:Int).toNat d11.2)).length <
 4611686018427387904) then
 some
 (List.drop 0
 (List.take
 (Lib.compact
 (List.take d11.1.toNat
 (srtI
 (List.take d11.1.toNat
 (List.take d11.1.toNat d11.2++List.replicate ((↑d11.2.length:Int).toNat - d11.1.toNat) 0 ++
 List.drop (↑d11.2.length:Int).toNat d11.2)) ++
 List.drop d11.1.toNat
 (List.take d11.1.toNat d11.2++List.replicate ((↑d11.2.length:Int).toNat - d11.1.toNat) 0 ++
 List.drop (↑d11.2.length:Int).toNat d11.2)))).length
 (cutI
 (srtI
 (List.take d11.1.toNat
 (List.take d11.1.toNat d11.2++List.replicate ((↑d11.2.length:Int).toNat - d11.1.toNat) 0++List.drop (↑d11.2.length:Int).toNat d11.2)) ++
 List.drop d11.1.toNat
 (List.take d11.1.toNat d11.2++List.replicate ((↑d11.2.length:Int).toNat - d11.1.toNat) 0++List.drop (↑d11.2.length:Int).toNat d11.2))
 d11.1.toNat)))
 else none
 else none
 else none
 else none
 else none)
 d9
 else none
theorem ZSi (a0:U):evGX (cxU Ye [QN,Yy,Zcj,Zhd,Zxm] 40 1048576) keeps 8 43 ZHb (.dat (.sl (.int .i64))) ((a0,()):(U×Unit))=ZpX a0:=by kernel_rfl
def ZBU (x:U×Unit):Option (List Int):=ZpX x.1
def ZHF:List AV→Prog AV:=conP true ZHb (.dat (.sl (.int .i64))) ZBU
theorem ZSP:Zd Tryz.prog 43 ZHF:=Zc (calU Ye [QN,Yy,Zcj,Zhd,Zxm] 40 1048576 8 43) true (by rfl) (by rfl) (fun x r e=>(Zg _ _ _ _ _ _ _).trans ((ZSi x.1).trans e)) (.inl rfl)
end
def ZfQ (b0 b0_1:List Int) (b0_2:Int) (b0_3:List C) (s15:List Int) (i:Nat) (b1:List Int) (d:Int):Option ((List Int)⊕Kn):=
 bif decide ((b1.length+[d,IntKind.i64.wrap (d - 1)].length+1)*8≤lim) then
  some (Sum.inl (b1++[d,IntKind.i64.wrap (d - 1)]))
 else none
def Zt4 (b0 b0_1:List Int) (b0_2:Int) (b0_3:List C) (s15 b1:List Int):Option Kn:=
 some (b0,b0_1,b0_2,b0_3,b1)
abbrev ZI4 (b0 b0_1:List Int) (b0_2:Int) (b0_3:List C) (s15:List Int) (i:Nat) (s:List Int):Ve:=(s15,(s15.length:Int),(i:Int),b0,b0_1,b0_2,b0_3,s)
def Zmq (b0 b0_1:List Int) (b0_2:Int) (b0_3:List C) (s15 s:List Int):Option Kn:=Zl (fun i s d=>ZfQ b0 b0_1 b0_2 b0_3 s15 i s d) (fun s=>Zt4 b0 b0_1 b0_2 b0_3 s15 s) 0 s15 s
theorem ZID (b0 b0_1:List Int) (b0_2:Int) (b0_3:List C) (s15 s:List Int) (hl:s15.length<9223372036854775807):Zdp (s15,(s15.length:Int),0,b0,b0_1,b0_2,b0_3,s)=Zmq b0 b0_1 b0_2 b0_3 s15 s:=by
 unfold Zdp Zmq
 refine Zk s15 (ZI4 b0 b0_1 b0_2 b0_3 s15) _ _ ?_ ?_ s (by unfold Zj;omega)
 ·intro i s d hi hd
  have e1:decide ((i:Int)<(s15.length:Int))=true:=decide_eq_true (by omega)
  have e2:decide (0≤(i:Int))=true:=decide_eq_true (by omega)
  have e3:Int.toNat (i:Int)=i:=Int.toNat_natCast i
  have e4:=Zm hi (Nat.le_of_lt hl)
  show ZcJ (s15) ((s15.length:Int)) ((i:Int)) (b0) (b0_1) (b0_2) (b0_3) (s)=upd _ (ZfQ b0 b0_1 b0_2 b0_3 s15 i s d)
  unfold ZcJ ZfQ
  simp only [e1,e2,e3,e4,hd,cond_true,cond_false,Zb,Zv,Zy,Zw,ZB,ZC,Zx]
 ·intro s
  have e1:decide ((s15.length:Int)<(s15.length:Int))=false:=decide_eq_false (by omega)
  show ZcJ (s15) ((s15.length:Int)) ((s15.length:Int)) (b0) (b0_1) (b0_2) (b0_3) (s)=_
  unfold ZcJ Zt4
  rw [e1]
  rfl
theorem ZTN {α:Type} (g:α→List Int):∀ (r:List α) (l:List Int),r.foldl (fun s d=>s++g d) l=l++r.flatMap g
 | [],l=>by simp
 | a::r,l=>by rw [List.foldl_cons,ZTN g r,List.flatMap_cons,List.append_assoc]
theorem Z4b (u:U) (l:List Int) (hu:∀ n∈u.2.1,1≤n∧n≤16) (h:l.length+2*u.2.1.length≤10000) :
  Zdp (u.2.1,(u.2.1.length:Int),0,u.1,u.2.1,u.2.2.1,u.2.2.2,l)=some (u.1,u.2.1,u.2.2.1,u.2.2.2,l++u.2.1.flatMap numD):=by
 rw [ZID u.1 u.2.1 u.2.2.1 u.2.2.2 u.2.1 l (by omega)]
 unfold Zmq
 rw [Zg3 (g:=fun s d=>s++numD d) (fun s r=>s.length+2*r.length≤10000∧∀ n∈r,1≤n∧n≤16) (fun j s d r h=>?_) u.2.1 0 l ⟨h,hu⟩,ZTN]
 ·rfl
 ·have h':=h.1
  rw [List.length_cons] at h'
  have hd:=h.2 d (by simp)
  have w:IntKind.i64.wrap (d - 1)=d - 1:=ZrC (by omega) (by omega)
  have q:decide ((s.length+2+1)*8≤lim)=true:=decide_eq_true (by unfold lim;omega)
  refine ⟨?_,by simp only [numD,List.length_append,List.length_cons,List.length_nil];omega,fun n hn=>h.2 n (by simp [hn])⟩
  simp only [ZfQ,w,List.length_cons,List.length_nil,Nat.zero_add,q,cond_true,numD]
def numB (a:A):List Int:=bif a.1==1 then [a.2.2.2.2.2.1 - 1,a.2.2.2.2.2.1,a.2.2.2.2.2.1+1] else []
theorem ZNK (a:A):(numB a).length≤3:=by unfold numB;cases a.1==1<;>simp
theorem ZqG {α:Type} {g:α→List Int} {k:Nat} (h:∀ a,(g a).length≤k):∀ r:List α,(r.flatMap g).length≤k*r.length
 | []=>by simp
 | a::r=>by
  have:=h a
  have:=ZqG h r
  rw [List.flatMap_cons,List.length_append,List.length_cons,Nat.mul_succ];omega
theorem Z2A (s29:List C) (s30 s31:Int) (acts:List A) (hf:∀ a∈acts,fitB a.2.2.2.2.2.1=true) (ha:acts.length≤60) (l:List Int) (hl:l.length≤7000) :
  ZaZ (s29,s30,s31,acts,(acts.length:Int),0,l)=some (s29,s30,s31,l++acts.flatMap numB):=by
 have go:∀ (r:List A) (i:Nat) (s:List Int) (k:Nat),acts.drop i=r→i+r.length=acts.length→s.length+3*r.length≤8000→
   iterO Zac (k+r.length+1) (s29,s30,s31,acts,(acts.length:Int),(i:Int),s)=some (s29,s30,s31,s++r.flatMap numB):=by
  intro r
  induction r with
  | nil=>
   intro i s k hd hi hs
   have e:decide ((i:Int)<(acts.length:Int))=false:=decide_eq_false (by simp at hi;omega)
   simp only [iterO,Zac,Hn,e,cond_false]
   simp
  | cons a r ih=>
   intro i s k hd hi hs
   rw [List.length_cons] at hi hs ⊢
   have hc:acts[i]? = some a:=by
    have:=congrArg (fun q=>q[0]?) hd
    simpa using this
   have e:decide ((i:Int)<(acts.length:Int))=true:=decide_eq_true (by omega)
   have e0:decide (0≤(i:Int))=true:=decide_eq_true (by omega)
   have w:=Zm (i:=i) (n:=acts.length) (by omega) (by omega)
   have hfa:=W9.1 (hf a (List.mem_of_getElem? hc))
   have w1:IntKind.i64.wrap (a.2.2.2.2.2.1 - 1)=a.2.2.2.2.2.1 - 1:=ZrC (by omega) (by omega)
   have w2:IntKind.i64.wrap (a.2.2.2.2.2.1+1)=a.2.2.2.2.2.1+1:=ZrC (by omega) (by omega)
   have lm:decide ((s.length+3+1)*8≤lim)=true:=decide_eq_true (by unfold lim;omega)
   have nb:=ZNK a
   have ih':=ih (i+1) (s++numB a) k (by rw [← List.drop_drop,hd];rfl) (by omega) (by rw [List.length_append];omega)
   rw [show k+(r.length+1)+1=(k+r.length+1)+1 by omega,iterO,List.flatMap_cons,← List.append_assoc]
   rw [← ih']
   simp only [Zac,Hn,e,e0,cond_true,Int.toNat_natCast,hc,Zb,w,w1,w2,List.length_cons,List.length_nil,Nat.zero_add,lm]
   unfold numB
   cases a.1==1
   ·simp only [cond_false,List.append_nil]
   ·simp only [cond_true]
 unfold ZaZ
 have:=go acts 0 l (Zj - acts.length - 1) rfl (by simp) (by omega)
 rw [show Zj - acts.length - 1+acts.length+1=Zj by unfold Zj;omega] at this
 exact this
def numBs (c:C):List Int:=c.2.flatMap numB
theorem Z4d (u:U) (hu:unitOK u) (l:List Int) (hl:l.length≤1000):ZgK (u.2.2.2,(u.2.2.2.length:Int),0,l)=some (l++u.2.2.2.flatMap numBs):=by
 have ht:=hu.t
 have go:∀ (r:List C) (i:Nat) (s:List Int) (k:Nat),u.2.2.2.drop i=r→i+r.length=u.2.2.2.length→s.length+180*r.length≤6000→
   iterO Zab (k+r.length+1) (u.2.2.2,(u.2.2.2.length:Int),(i:Int),s)=some (s++r.flatMap numBs):=by
  intro r
  induction r with
  | nil=>
   intro i s k hd hi hs
   have e:decide ((i:Int)<(u.2.2.2.length:Int))=false:=decide_eq_false (by simp at hi;omega)
   simp only [iterO,Zab,ZmA,e,cond_false]
   simp
  | cons c r ih=>
   intro i s k hd hi hs
   rw [List.length_cons] at hi hs ⊢
   have hc:u.2.2.2[i]? = some c:=by
    have:=congrArg (fun q=>q[0]?) hd
    simpa using this
   have ho:=hu.ts c (List.mem_of_getElem? hc)
   have e:decide ((i:Int)<(u.2.2.2.length:Int))=true:=decide_eq_true (by omega)
   have e0:decide (0≤(i:Int))=true:=decide_eq_true (by omega)
   have w:=Zm (i:=i) (n:=u.2.2.2.length) (by omega) (by omega)
   have hn:=ho.n.2
   have a1:=Z2A u.2.2.2 (u.2.2.2.length:Int) (i:Int) c.2 (fun a ha=>(ho.a a ha).n) hn s (by omega)
   have a2:=ZqG ZNK c.2
   have ih':=ih (i+1) (s++numBs c) k (by rw [← List.drop_drop,hd];rfl) (by omega) (by rw [List.length_append];unfold numBs;omega)
   rw [show k+(r.length+1)+1=(k+r.length+1)+1 by omega,iterO,List.flatMap_cons,← List.append_assoc,← ih']
   simp only [Zab,ZmA,e,e0,cond_true,Int.toNat_natCast,hc,Zb,a1,w]
   rfl
 unfold ZgK
 have:=go u.2.2.2 0 l (Zj - u.2.2.2.length - 1) rfl (by simp) (by omega)
 rw [show Zj - u.2.2.2.length - 1+u.2.2.2.length+1=Zj by unfold Zj;omega] at this
 exact this
theorem Z2G {d:Int}:(bif decide (d < -2147483648) then false else bif decide (d>2147483647) then false else true)=fitB d:=by
 cases h:fitB d
 ·have:¬ (-2147483648≤d∧d≤2147483647):=fun k=>by rw [W9.2 k] at h;cases h
  by_cases h1:d < -2147483648
  ·rw [decide_eq_true h1];rfl
  ·rw [decide_eq_false h1,decide_eq_true (show d>2147483647 by omega)];rfl
 ·have:=W9.1 h
  rw [decide_eq_false (show ¬ d < -2147483648 by omega),decide_eq_false (show ¬ d>2147483647 by omega)];rfl
theorem ZWB {α:Type} {d:Int} {x y:α}:(bif decide (d < -2147483648) then x else bif decide (d>2147483647) then x else y)=bif fitB d then y else x:=by
 rw [← Z2G]
 cases decide (d < -2147483648)<;>cases decide (d>2147483647)<;>rfl
theorem Z2B (L:List Int) (hL:L.length≤10000):(Jr ((L.length:Int),0,L)=some (.inl L)∧L.filter fitB=L)∨∃ j:Nat,j<L.length∧Jr ((L.length:Int),0,L)=some (.inr ((j:Int),L))∧L.filter fitB=L.take j++(L.drop (j+1)).filter fitB:=by
 have go:∀ (r:List Int) (i:Nat) (k:Nat),L.drop i=r→i+r.length=L.length→(L.take i).filter fitB=L.take i→
   (iterO Qm (k+r.length+1) ((L.length:Int),(i:Int),L)=some (.inl L)∧L.filter fitB=L) ∨
   ∃ j:Nat,j<L.length∧iterO Qm (k+r.length+1) ((L.length:Int),(i:Int),L)=some (.inr ((j:Int),L))∧L.filter fitB=L.take j++(L.drop (j+1)).filter fitB:=by
  intro r
  induction r with
  | nil=>
   intro i k hd hi hf
   have hi:i=L.length:=by simpa using hi
   have e:decide ((i:Int)<(L.length:Int))=false:=decide_eq_false (by omega)
   refine .inl ⟨?_,?_⟩
   ·simp only [iterO,Qm,K5,e,cond_false]
   ·subst hi
    rwa [List.take_length] at hf
  | cons d r ih=>
   intro i k hd hi hf
   rw [List.length_cons] at hi ⊢
   have hc:L[i]? = some d:=by
    have:=congrArg (fun q=>q[0]?) hd
    simpa using this
   have e:decide ((i:Int)<(L.length:Int))=true:=decide_eq_true (by omega)
   have e0:decide (0≤(i:Int))=true:=decide_eq_true (by omega)
   have w:=Zm (i:=i) (n:=L.length) (by omega) (by omega)
   have hs:iterO Qm (k+(r.length+1)+1) ((L.length:Int),(i:Int),L) =
     bif fitB d then iterO Qm (k+r.length+1) ((L.length:Int),((i+1:Nat):Int),L) else some (.inr ((i:Int),L)):=by
    rw [show k+(r.length+1)+1=(k+r.length+1)+1 by omega,iterO]
    simp only [Qm,K5,e,e0,cond_true,Int.toNat_natCast,hc,Zb,w]
    rw [ZWB]
    cases fitB d<;>rfl
   rw [hs]
   cases hq:fitB d
   ·refine .inr ⟨i,by omega,rfl,?_⟩
    have hL2:L=L.take i++d::L.drop (i+1):=by
     have:L.drop i=d::L.drop (i+1):=by
      have h1:=(List.getElem?_eq_some_iff.1 hc)
      obtain ⟨h1,h2⟩:=h1
      rw [List.drop_eq_getElem_cons h1,h2]
     rw [← this,List.take_append_drop]
    conv=>lhs;rw [hL2]
    rw [List.filter_append,hf,List.filter_cons,hq]
    rfl
   ·refine ih (i+1) k (by rw [← List.drop_drop,hd];rfl) (by omega) ?_
    rw [List.take_add_one,hc,List.filter_append,hf]
    simp [hq]
 unfold Jr
 have:=go L 0 (Zj - L.length - 1) rfl (by simp) rfl
 rw [show Zj - L.length - 1+L.length+1=Zj by unfold Zj;omega] at this
 exact this
theorem Z4c (L:List Int) (hL:L.length≤10000) (j0:Nat) (hj:j0<L.length) (hf:L.filter fitB=L.take j0++(L.drop (j0+1)).filter fitB) :
  ∃ (j:Nat) (X:List Int),ZgL ((j0:Int),((j0+1:Nat):Int),L)=some ((j:Int),X)∧j≤X.length∧X.length=L.length∧X.take j=L.filter fitB:=by
 have go:∀ (r:List Int) (i j:Nat) (X:List Int) (k:Nat),j≤i→X.drop i=r→X.length=L.length→i+r.length=L.length→X.take j++r.filter fitB=L.filter fitB→
   ∃ (j':Nat) (X':List Int),iterO QI (k+r.length+1) ((j:Int),(i:Int),X)=some ((j':Int),X')∧j'≤X'.length∧X'.length=L.length∧X'.take j'=L.filter fitB:=by
  intro r
  induction r with
  | nil=>
   intro i j X k hji hd hX hi hq
   have hi:i=L.length:=by simpa using hi
   have e:decide ((i:Int)<(X.length:Int))=false:=decide_eq_false (by omega)
   refine ⟨j,X,?_,by omega,hX,by simpa using hq⟩
   simp only [iterO,QI,ZmB,e,cond_false]
  | cons d r ih=>
   intro i j X k hji hd hX hi hq
   rw [List.length_cons] at hi ⊢
   have hc:X[i]? = some d:=by
    have:=congrArg (fun q=>q[0]?) hd
    simpa using this
   have e:decide ((i:Int)<(X.length:Int))=true:=decide_eq_true (by omega)
   have e0:decide (0≤(i:Int))=true:=decide_eq_true (by omega)
   have e1:decide (0≤(j:Int))=true:=decide_eq_true (by omega)
   have w:=Zm (i:=i) (n:=X.length) (by omega) (by omega)
   have wj:=Zm (i:=j) (n:=X.length) (by omega) (by omega)
   have hd1:X.drop (i+1)=r:=by rw [← List.drop_drop,hd];rfl
   have gj:X[j]? = some (X[j]'(by omega)):=List.getElem?_eq_getElem _
   have hs:iterO QI (k+(r.length+1)+1) ((j:Int),(i:Int),X) =
     bif fitB d then iterO QI (k+r.length+1) (((j+1:Nat):Int),((i+1:Nat):Int),X.set j d)
     else iterO QI (k+r.length+1) ((j:Int),((i+1:Nat):Int),X):=by
    rw [show k+(r.length+1)+1=(k+r.length+1)+1 by omega,iterO]
    simp only [QI,ZmB,e,e0,e1,cond_true,Int.toNat_natCast,hc,gj,Zb,w,wj]
    rw [ZWB]
    cases fitB d<;>rfl
   rw [hs]
   rw [List.filter_cons] at hq
   cases hw:fitB d
   ·rw [hw] at hq
    exact ih (i+1) j X k (by omega) hd1 hX (by omega) hq
   ·rw [hw] at hq
    refine ih (i+1) (j+1) (X.set j d) k (by omega) ?_ (by rw [List.length_set];exact hX) (by omega) ?_
    ·rw [List.drop_set_of_lt (by omega)];exact hd1
    ·rw [← hq,List.take_add_one,List.getElem?_set_self (by omega),List.take_set_of_le (Nat.le_refl _)]
     simp
 unfold ZgL
 have h1:(L.drop (j0+1)).length=L.length - (j0+1):=List.length_drop ..
 have:=go (L.drop (j0+1)) (j0+1) j0 L (Zj - (L.length - (j0+1)) - 1) (by omega) rfl rfl (by omega) hf.symm
 rw [h1,show Zj - (L.length - (j0+1)) - 1+(L.length - (j0+1))+1=Zj by unfold Zj;omega] at this
 exact this
def rawN (u:U):List Int:=[-1,0,1]++u.1++u.2.1.flatMap numD++u.2.2.2.flatMap numBs
theorem ZNo (M:List Int) (m:Nat):List.drop 0 (List.take (Lib.compact (List.take m M)).length (cutI M m))=Lib.compact (List.take m M):=by
 unfold cutI
 rw [List.drop_zero,List.append_assoc,List.take_left]
theorem ZXK (u:U):Lib.compact (srtI ((rawN u).filter fitB))=ZJ u:=by
 obtain ⟨h1,h2⟩:=ZZW ((rawN u).filter fitB)
 refine ZRT _ _ h1 (ZYb u) fun x=>?_
 rw [h2,ZZr,List.mem_filter]
 have k:x∈rawN u↔x∈([-1,0,1]:List Int)∨x∈allN u:=by
  unfold rawN allN
  have hB:∀ a:A,x∈numB a↔x∈numA a:=fun a=>by
   unfold numB numA
   cases a.1==1
   ·rfl
   ·simp only [cond_true,List.mem_cons]
    exact ⟨fun h=>by rcases h with h | h | h | h<;>simp_all,fun h=>by rcases h with h | h | h | h<;>simp_all⟩
  have hC:∀ c:C,x∈numBs c↔x∈numC c:=fun c=>by
   unfold numBs numC
   simp only [List.mem_flatMap,hB]
  simp only [List.mem_append,List.mem_flatMap,hC,or_assoc]
 rw [k]
 constructor
 ·rintro ⟨h | h,hf⟩
  ·exact .inr h
  ·exact .inl ⟨h,hf⟩
 ·rintro (⟨h,hf⟩ | h)
  ·exact ⟨.inr h,hf⟩
  ·refine ⟨.inl h,?_⟩
   simp only [List.mem_cons,List.not_mem_nil,or_false] at h
   rcases h with rfl | rfl | rfl<;>rfl
theorem Z1H (u:U) (hu:unitOK u):(rawN u).length≤3000:=by
 have h1:=hu.g
 have h2:=hu.a
 have h3:=hu.t
 have a:=ZqG (g:=numD) (k:=2) (fun d=>Nat.le_refl _) u.2.1
 have b:∀ (r:List C),(∀ c∈r,c.2.length≤60)→(r.flatMap numBs).length≤180*r.length:=by
  intro r
  induction r with
  | nil=>simp
  | cons c r ih=>
   intro h
   have h0:=h c (by simp)
   have:=ih fun c hc=>h c (by simp [hc])
   have:=ZqG ZNK c.2
   rw [List.flatMap_cons,List.length_append,List.length_cons]
   unfold numBs at *
   omega
 have b:=b u.2.2.2 fun c hc=>(hu.ts c hc).n.2
 unfold rawN
 simp only [List.length_append,List.length_cons,List.length_nil]
 omega
theorem ZXi (l:List Int):(srtI l).length=l.length:=by unfold srtI;exact List.length_mergeSort _
theorem ZVI (u:U) (hu:unitOK u):ZpX u=some (ZJ u):=by
 have g1:=hu.g
 have g2:=hu.a
 have rl:=Z1H u hu
 unfold ZpX
 rw [decide_eq_true (show ([-1,0,1].length+List.length u.1+1)*8≤lim by simp only [List.length_cons,List.length_nil];unfold lim;omega),cond_true]
 rw [Z4b u _ (fun n hn=>hu.ars n hn) (by simp only [List.length_append,List.length_cons,List.length_nil];omega)]
 simp only [Zb]
 have rl':=rl
 unfold rawN at rl'
 rw [List.length_append] at rl'
 have a2:=ZqG (g:=numD) (k:=2) (fun d=>Nat.le_refl _) u.2.1
 rw [Z4d u hu _ (by simp only [List.length_append,List.length_cons,List.length_nil];omega)]
 simp only [Zb]
 rw [← ZXK]
 show optC (Jr (((rawN u).length:Int),0,rawN u)) none _=_
 generalize rawN u=L at *
 rcases Z2B L (by omega) with ⟨h1,h2⟩ | ⟨j0,hj,h1,h2⟩
 ·rw [h1,h2]
  have s1:=ZXi L
  simp only [Zb,Sum.elim_inl]
  rw [decide_eq_true (show L.length<4611686018427387904 by omega),decide_eq_true (show (srtI L).length<4611686018427387904 by omega),cond_true,cond_true,ZNo,List.take_length]
 ·rw [h1]
  obtain ⟨j,X,d1,d2,d3,d4⟩:=Z4c L (by omega) j0 hj h2
  rw [← d4]
  have n1:((j0:Int) == -1)=false:=by simp
  have w:IntKind.i64.wrap ((j0:Int)+1)=((j0+1:Nat):Int):=Zm (n:=L.length) hj (by omega)
  have ts:(srtI (List.take j X)).length=j:=by rw [ZXi,List.length_take];omega
  simp only [Zb,Sum.elim_inr,n1,cond_false,w,d1,Int.toNat_natCast]
  have c1:decide (0≤(j:Int)∧(j:Int)≤(X.length:Int)∧(X.length:Int)≤(X.length:Int))=true:=decide_eq_true (by omega)
  rw [c1,cond_true]
  by_cases q:X.length≤j
  ·have c2:decide ((0:Int)≤0∧0≤(j:Int)∧(j:Int)≤(X.length:Int))=true:=decide_eq_true (by omega)
   have c3:decide (j≤X.length∧X.length<4611686018427387904)=true:=decide_eq_true (by omega)
   have c4:decide (j≤(srtI (List.take j X)++List.drop j X).length∧(srtI (List.take j X)++List.drop j X).length<4611686018427387904)=true:=decide_eq_true (by rw [List.length_append,ts,List.length_drop];omega)
   rw [decide_eq_true q,c2,c3,c4]
   simp only [cond_true]
   rw [ZNo,List.take_append_of_le_length (by omega),List.take_of_length_le (by omega)]
  ·rw [decide_eq_false q]
   simp only [cond_false]
   have lt:(List.take j X).length=j:=by rw [List.length_take];omega
   have y1:(List.take j X++List.replicate (X.length - j) 0++List.drop X.length X).length=X.length:=by simp only [List.length_append,lt,List.length_replicate,List.length_drop];omega
   have y2:List.take j (List.take j X++List.replicate (X.length - j) 0++List.drop X.length X)=List.take j X:=by rw [List.append_assoc,List.take_append_of_le_length (by omega),List.take_take,Nat.min_self]
   have key:∀ Y:List Int,Y.length=X.length→List.take j Y=List.take j X→
     (bif decide (X.length≤X.length) then bif decide ((0:Int)≤0∧0≤(j:Int)∧(j:Int)≤(Y.length:Int)) then bif decide (j≤Y.length∧Y.length<4611686018427387904) then
      bif decide (j≤(srtI (List.take j Y)++List.drop j Y).length∧(srtI (List.take j Y)++List.drop j Y).length<4611686018427387904) then
       some (List.drop 0 (List.take (Lib.compact (List.take j (srtI (List.take j Y)++List.drop j Y))).length (cutI (srtI (List.take j Y)++List.drop j Y) j))) else none else none else none else none)=some (Lib.compact (srtI (List.take j X))):=fun Y y1 y2=>by
    have tY:(srtI (List.take j Y)).length=j:=by rw [y2];exact ts
    have c2:decide ((0:Int)≤0∧0≤(j:Int)∧(j:Int)≤(Y.length:Int))=true:=decide_eq_true (by omega)
    have c3:decide (j≤Y.length∧Y.length<4611686018427387904)=true:=decide_eq_true (by omega)
    have c4:decide (j≤(srtI (List.take j Y)++List.drop j Y).length∧(srtI (List.take j Y)++List.drop j Y).length<4611686018427387904)=true:=decide_eq_true (by rw [List.length_append,tY,List.length_drop];omega)
    rw [decide_eq_true (Nat.le_refl X.length),c2,c3,c4]
    simp only [cond_true]
    rw [ZNo,List.take_append_of_le_length (by omega),List.take_of_length_le (by omega),y2]
   exact key _ y1 y2
section
section
variable [RT] {P:Program}
def mvB (base id j:Nat) (h:Hp):Hp:=match findB h.blks id with
 | some (.box cs)=>match cs[j]? with
  | some (.row k)=>bif leB base k then h else match findB h.blks k with
   | some (.row e l)=>⟨setB ((h.c,.row e l)::delB h.blks k) id (.box (cs.set j (.row h.c))),h.c+1⟩
   | _=>h
  | _=>h
 | _=>h
def mvBs (base:Nat) (T:Tm):List (Nat×Nat)→Hp→Hp
 | [],h=>h
 | (t,j)::r,h=>match getT T t with
  | .ptr id _=>mvBs base T r (mvB base id j h)
  | _=>h
def owS (T:Tm):List (Nat×Nat×Ty)→Hp→Hp
 | [],h=>h
 | (t,j,e)::r,h=>match getT T t with
  | .ptr id _=>owS T r (ownB h id j e)
  | _=>h
def frS (T:Tm):List (Nat×Nat)→Hp→Hp
 | [],h=>h
 | (t,j)::r,h=>match getT T t with
  | .ptr id _=>frS T r (rowB1 id j h)
  | _=>h
section
variable {ok:Nat→Prop} {hdr0 hdr:Nat→Value} {S0 S:Stb} {h0 h:Hp} {w0 w:World} {a0 a:Act} {T:Tm}
theorem Left.under (l:Left P false ok hdr0 S0 h0 w0 a0 h T hdr S a w) (hO:∀ id,ok id→id<h0.c) {k:Nat} {e:Ty} {x:List (D e)} (hf:findB h.blks k=some (.row e x)) :
  Left P false ok hdr0 S0 h0 w0 a0 ⟨(h.c,.row e x)::delB h.blks k,h.c+1⟩ T (hdrN hdr h.c (hdr k)) S a w:=by
 have hlt:∀ id,okn ok h0.c h.c id→id<h.c:=fun id k=>by
  rcases k with k | k
  ·exact Nat.lt_of_lt_of_le (hO id k) l.post.mono
  ·exact k.2
 have p:Post false (okn ok h0.c h.c) hdr S h w (hdrN hdr h.c (hdr k)) S ⟨(h.c,.row e x)::delB h.blks k,h.c+1⟩ w:=by
  have br:=l.post.real.blk k _ hf
  cases br with
  | rowNil _ ao hh=>
   have p1:=ZqO (tr:=false) l.post.real l.post.ment k _ hf S (fun _ _ k=>k) (fun _ _ k=>.inl k)
   have p2:=post_new' (tr:=false) (h:=⟨delB h.blks k,h.c⟩) p1.real p1.ment (fun id k=>.inl (by rcases k with k | k;exact hlt id k;omega)) (.row e []) (fun n hn=>by cases hn) w rfl rfl rfl (Nat.le_refl _) (fun _ _=>rfl) (hdr k)
    (by rw [hh];cases ao<;>exact .inl rfl) (fun hdr' _ g2=>.rowNil e ao (g2.trans hh))
   exact p1.trans p2
  | row _ _ b cap vs et hh hcap hw hl hs hre=>
   have hblk:blkOf (hdr k)=some b:=by
    rw [hh]
    cases cap with
    | zero=>omega
    | succ n=>rfl
   exact ZCI (tr:=false) l.post.real l.post.ment (fun id k=>.inl (hlt id k)) k (.row e x) _ hf (fun n hn=>by cases hn) w b (hdr k) hblk hblk rfl rfl rfl rfl (fun _ _=>rfl)
    (fun hdr' _ g2=>.row e x b cap vs et (g2.trans hh) hcap hw hl hs hre)
 refine l.trans ⟨p,fun t=>?_,fun t n hn=>.inl (l.tok t n hn),rfl,rfl⟩
 exact VRep.mono (fun _ _ k=>k) (l.tmps t) fun n hn=>Zrd _ _ _ (by have:=hlt n (l.tok t n hn);omega)
theorem Left.mvB (l:Left P false ok hdr0 S0 h0 w0 a0 h T hdr S a w) (hO:∀ id,ok id→id<h0.c) (base id j:Nat) :
  ∃ hdr',Left P false ok hdr0 S0 h0 w0 a0 (Go.Proofs.YtbdcblpjemmipaaGreat.Ex.mvB base id j h) T hdr' S a w:=by
 unfold Go.Proofs.YtbdcblpjemmipaaGreat.Ex.mvB
 split
 case h_2=>exact ⟨hdr,l⟩
 rename_i cs hf
 split
 case h_2=>exact ⟨hdr,l⟩
 rename_i k hk
 cases leB base k
 case true=>exact ⟨hdr,l⟩
 simp only [cond_false]
 split
 case h_2=>exact ⟨hdr,l⟩
 rename_i e x hx
 have hne:id≠k:=fun q=>by rw [q,hx] at hf;cases hf
 have hb:=l.post.real.blk id _ hf
 cases hb with | box _ b vs et hh hw hr=>
 obtain ⟨u,hu,hv⟩:=hr.get j _ hk
 cases hv with | row _ ao len cap hh2=>
 have l1:=l.under hO hx
 have hlt:∀ id,okn ok h0.c h.c id→id<h.c:=fun id k=>by
  rcases k with k | k
  ·exact Nat.lt_of_lt_of_le (hO id k) l.post.mono
  ·exact k.2
 have hid:=hlt id (l.post.ment id _ hf).1
 have hf1:findB ((h.c,Blk.row e x)::delB h.blks k) id=some (.box cs):=by rw [QH,if_neg (by omega),Zdf,if_neg hne];exact hf
 have hb1:=l1.post.real.blk id _ hf1
 cases hb1 with | box _ b1 vs1 et1 hh1 hw1 hr1=>
 have e0:hdrN hdr h.c (hdr k) id=hdr id:=Zrd _ _ _ (by omega)
 rw [e0,hh] at hh1
 cases hh1
 rw [hw] at hw1
 simp only [Option.some.injEq,Obj.cells.injEq] at hw1
 have hvs:vs=vs1:=by have:=congrArg Array.toList hw1.1;simpa using this
 subst hvs
 have hB:∀ n∈(Blk.box (cs.set j (.row h.c))).ids,okn ok h0.c (h.c+1) n:=fun n hn=>by
  rcases ZFJ j _ n hn with k | k
  ·exact (l1.post.ment id _ hf1).2 n k
  ·simp only [AV.ids,List.mem_singleton] at k
   subst k
   exact .inr ⟨l.post.mono,Nat.lt_succ_self _⟩
 have p:=ZqP (tr:=false) l1.post.real l1.post.ment id (.box (cs.set j (.row h.c))) _ hf1 hB w b (by rw [e0,hh];rfl) rfl rfl rfl rfl (fun _ _=>rfl)
  (.box _ b vs et (by rw [e0,hh]) hw (ZBS j (.row h.c) _ hr1 hu (.row _ ao len cap (by rw [VC];exact hh2))))
 exact ⟨_,l1.trans ⟨p,l1.tmps,fun t n hn=>.inl (l1.tok t n hn),rfl,rfl⟩⟩
theorem Left.mvBs (base:Nat) (hO:∀ id,ok id→id<h0.c):∀ (bs:List (Nat×Nat)) {h:Hp} {hdr:Nat→Value} (_:Left P false ok hdr0 S0 h0 w0 a0 h T hdr S a w),∃ hdr',Left P false ok hdr0 S0 h0 w0 a0 (Go.Proofs.YtbdcblpjemmipaaGreat.Ex.mvBs base T bs h) T hdr' S a w
 | [],_,hdr,l=>⟨hdr,l⟩
 | (t,j)::r,_,hdr,l=>by
  unfold Go.Proofs.YtbdcblpjemmipaaGreat.Ex.mvBs
  split
  ·obtain ⟨hdr',l'⟩:=l.mvB hO base _ j
   exact Left.mvBs base hO r l'
  ·exact ⟨hdr,l⟩
theorem Left.owS (hO:∀ id,ok id→id<h0.c):∀ (bs:List (Nat×Nat×Ty)) {h:Hp} {hdr:Nat→Value} (_:Left P false ok hdr0 S0 h0 w0 a0 h T hdr S a w),∃ hdr',Left P false ok hdr0 S0 h0 w0 a0 (Go.Proofs.YtbdcblpjemmipaaGreat.Ex.owS T bs h) T hdr' S a w
 | [],_,hdr,l=>⟨hdr,l⟩
 | (t,j,e)::r,_,hdr,l=>by
  unfold Go.Proofs.YtbdcblpjemmipaaGreat.Ex.owS
  split
  ·rename_i id _ _
   obtain ⟨hdr',l'⟩:=l.ownB hO id j e
   exact Left.owS hO r l'
  ·exact ⟨hdr,l⟩
theorem Left.frS:∀ (bs:List (Nat×Nat)) {h:Hp} {S:Stb} (_:Left P false ok hdr0 S0 h0 w0 a0 h T hdr S a w),∃ S',Left P false ok hdr0 S0 h0 w0 a0 (Go.Proofs.YtbdcblpjemmipaaGreat.Ex.frS T bs h) T hdr S' a w
 | [],_,S,l=>⟨S,l⟩
 | (t,j)::r,_,S,l=>by
  unfold Go.Proofs.YtbdcblpjemmipaaGreat.Ex.frS
  split
  ·rename_i id _ _
   obtain ⟨S',l'⟩:=l.rowB1 id j
   exact Left.frS r l'
  ·exact ⟨S,l⟩
def slP (os:List (Nat×Nat×Ty)) (fs ms:List (Nat×Nat)) (keep:List Nat) (r:Nat→Tm→Prog (Nat×Tm)) (base:Nat) (T:Tm):Prog (Nat×Tm):=
 .norm base keep T fun T1=>.glob (fun h=>some (T1,mvBs base T1 ms (frS T1 fs (owS T1 os h)))) fun T2=>r base T2
theorem ZU9 {n:Nat} {c:Code} {os:List (Nat×Nat×Ty)} {fs ms:List (Nat×Nat)} {keep:List Nat} {r:Nat→Tm→Prog (Nat×Tm)} (hs:Z4 P n c r):Z4 P n c (slP os fs ms keep r):=by
 intro tr ok hdr0 S0 h0 w0 a0 h T hdr S a w f e T' h' f' Q l hn ev hO hK
 obtain ⟨T1,h1,hdr1,rfl,l1,ev⟩:=l.normed ev
 have hO2:∀ id,ok id→id<h0.c:=fun id k=>by
  rcases hO id k with k | k
  ·exact k
  ·cases k.1
 obtain ⟨hdr2,l2⟩:=Left.owS hO2 os l1
 obtain ⟨S3,l3⟩:=Left.frS fs l2
 obtain ⟨hdr4,l4⟩:=Left.mvBs h0.c hO2 ms l3
 unfold ex at ev
 simp only [run,cond_false,Option.bind_some] at ev
 exact hs false ok hdr0 S0 h0 w0 a0 _ _ hdr4 S3 a w f e T' h' f' Q l4 hn ev hO hK
end
end
end
section
section
variable [RT] {P:Program}
def Zen:List AV→List Nat
 | []=>[]
 | .row i::r=>i::Zen r
 | _::r=>Zen r
def getsP:List Nat→(List Blk→Prog AV)→Prog AV
 | [],k=>k []
 | i::r,k=>.get i fun b=>getsP r fun bs=>k (b::bs)
def putsP:List Nat→List Blk→Prog AV→Prog AV
 | i::r,b::bs,k=>.put i b (putsP r bs k)
 | _,_,k=>k
def inOf (ids:List Nat) (n:Nat):Option Nat:=idxN ids n 0
def outOf (ids:List Nat) (n:Nat):Option Nat:=ids[n]?
def meP (N:List AV→List Blk→Option (AV×List Blk)) (args:List AV):Prog AV:=match args with
 | .ptr id _::_=>.get id fun
  | .box cs=>.ite (QE (id::Zen cs)) (getsP (id::Zen cs) fun bs=>
    .opt (N (AV.renL (inOf (id::Zen cs)) args) (bs.map (Blk.ren (inOf (id::Zen cs))))) fun y=>putsP (id::Zen cs) (y.2.map (Blk.ren (outOf (id::Zen cs)))) (.ret y.1)) .fail
  | .row _ _=>.fail
 | _=>.fail
def getB (h:List (Nat×Blk)):List Nat→Option (List Blk)
 | []=>some []
 | i::r=>(findB h i).bind fun b=>(getB h r).map (b::·)
def putB:List (Nat×Blk)→List Nat→List Blk→List (Nat×Blk)
 | h,i::r,b::bs=>putB (setB h i b) r bs
 | h,_,_=>h
theorem ZWx {tr:Bool} {h:Hp} {r:AV×Hp×Foot}:∀ (ids:List Nat) (k:List Blk→Prog AV) (f:Foot),ex (getsP ids k) tr h f=some r→∃ bs f',getB h.blks ids=some bs∧ex (k bs) tr h f'=some r
 | [],k,f,e=>⟨[],f,rfl,e⟩
 | i::ids,k,f,e=>by
  obtain ⟨b,hb,e⟩:=Qo e
  obtain ⟨bs,f',h1,e⟩:=ZWx ids _ _ e
  exact ⟨b::bs,f',by simp [getB,hb,h1],e⟩
theorem ZWz {tr:Bool} {v:AV} {r:AV×Hp×Foot}:∀ (ids:List Nat) (bs:List Blk) (h:Hp) (f:Foot),ex (putsP ids bs (.ret v)) tr h f=some r→∃ f',r=(v,⟨putB h.blks ids bs,h.c⟩,f')
 | [],bs,h,f,e=>by
  unfold putsP at e
  cases Zt e
  exact ⟨f,rfl⟩
 | i::ids,[],h,f,e=>by
  unfold putsP at e
  cases Zt e
  exact ⟨f,rfl⟩
 | i::ids,b::bs,h,f,e=>by
  obtain ⟨_,e⟩:=ZrX e
  exact ZWz ids bs _ _ e
theorem ZPW {h:List (Nat×Blk)}:∀ {ids:List Nat} {bs:List Blk},getB h ids=some bs→ids.length=bs.length∧∀ (i n:Nat),ids[i]? = some n→findB h n=bs[i]?
 | [],bs,e=>by cases e;exact ⟨rfl,fun i n k=>by simp at k⟩
 | j::ids,bs,e=>by
  simp only [getB,Option.bind_eq_some_iff,Option.map_eq_some_iff] at e
  obtain ⟨b,hb,bs',hb',rfl⟩:=e
  obtain ⟨h1,h2⟩:=ZPW hb'
  refine ⟨by simp [h1],fun i n k=>?_⟩
  cases i with
  | zero=>simp at k;subst k;simpa using hb
  | succ i=>simp at k;simpa using h2 i n k
theorem ZXH {n:Nat} {l:List Nat} (h:QE (n::l)=true):n ∉ l∧QE l=true:=by
 simp only [QE] at h
 cases hn:hasN l n
 ·rw [hn] at h
  refine ⟨fun k=>?_,by simpa using h⟩
  have:∀ (l:List Nat),n∈l→hasN l n=true:=fun l=>by
   induction l with
   | nil=>intro k;cases k
   | cons a l ih=>
    intro k
    show (bif Nat.beq a n then true else hasN l n)=true
    rcases List.mem_cons.1 k with rfl | k
    ·simp
    ·rw [ih k];cases Nat.beq a n<;>rfl
  rw [this l k] at hn;cases hn
 ·rw [hn] at h;simp at h
theorem ZRo {j:Nat}:∀ {ids:List Nat} {bs:List Blk} {h:List (Nat×Blk)},QE ids=true→ids.length=bs.length→(∀ n∈ids,∃ b,findB h n=some b)→
  (∀ i:Nat,ids[i]? = some j→findB (putB h ids bs) j=bs[i]?)∧(j ∉ ids→findB (putB h ids bs) j=findB h j)
 | [],bs,h,_,_,_=>⟨fun i k=>by simp at k,fun _=>by cases bs<;>rfl⟩
 | n::ids,[],h,_,hl,_=>by simp at hl
 | n::ids,b::bs,h,hn,hl,hf=>by
  obtain ⟨h1,h2⟩:=ZXH hn
  obtain ⟨b0,hb0⟩:=hf n (by simp)
  have ih:=ZRo (j:=j) (bs:=bs) (h:=setB h n b) h2 (by simpa using hl) fun m hm=>by
   obtain ⟨b1,hb1⟩:=hf m (by simp [hm])
   rw [ZaD _ _ _ _ hb0]
   split
   ·exact ⟨b,rfl⟩
   ·exact ⟨b1,hb1⟩
  refine ⟨fun i k=>?_,fun k=>?_⟩
  ·cases i with
   | zero=>
    simp only [List.getElem?_cons_zero,Option.some.injEq] at k
    subst k
    show findB (putB (setB h n b) ids bs) n=some b
    rw [ih.2 h1,ZaD _ _ _ _ hb0,if_pos rfl]
   | succ i=>exact ih.1 i (by simpa using k)
  ·simp only [List.mem_cons,not_or] at k
   show findB (putB (setB h n b) ids bs) j=findB h j
   rw [ih.2 k.2,ZaD _ _ _ _ hb0,if_neg k.1]
theorem ZZn {g:FuncId} {q:List AV→Prog AV} (hq:Zd P g q) {N:List AV→List Blk→Option (AV×List Blk)}
  (hN:∀ args bs v bs2,N args bs=some (v,bs2)→(∀ n∈AV.idsL args,n<bs.length)∧(∀ b∈bs,∀ n∈b.ids,n<bs.length)∧v.ids=[]∧bs2.length=bs.length∧(∀ b∈bs2,∀ n∈b.ids,n<bs.length) ∧
   ∃ h2 fb,ex (q args) false ⟨enumB 0 bs,bs.length⟩ ⟨[],[]⟩=some (v,h2,fb)∧∀ i,i<bs.length→findB h2.blks i=bs2[i]?):Zd P g (meP N):=by
 intro tr args h ft v h' ft' vals hdr S w ok e hr hm hv hi hO
 unfold meP at e
 split at e
 case h_2=>exact (Ze e).elim
 rename_i id off rest
 obtain ⟨b0,hb0,e⟩:=Qo e
 split at e
 case h_2=>exact (Ze e).elim
 rename_i cs
 rcases Yc e with ⟨hnd,e⟩ | ⟨_,e⟩
 case inr=>exact (Ze e).elim
 generalize hids:id::Zen cs=ids at e hnd
 obtain ⟨bs,f1,hg,e⟩:=ZWx ids _ _ e
 obtain ⟨⟨v1,bs2⟩,hNe,e⟩:=Zu e
 obtain ⟨f2,e⟩:=ZWz ids _ _ _ e
 cases e
 obtain ⟨hlen,hat⟩:=ZPW hg
 obtain ⟨k1,k2,k3,k4,k5,h2,fb,k6,k7⟩:=hN _ _ _ _ hNe
 simp only [List.length_map] at k1 k2 k4 k5 k6 k7
 have hin:∀ n m,inOf ids n=some m→ids[m]? = some n:=fun n m e=>by
  have:=(ZBu e).2
  simpa using this
 have hio:∀ i n,ids[i]? = some n→inOf ids n=some i:=fun i n k=>by
  have:=ZzE 0 hnd k
  rw [Nat.zero_add] at this
  exact this
 let hdr0:Nat→Value:=fun i=>hdr (ids.getD i 0)
 have hd0:∀ i n,ids[i]? = some n→hdr0 i=hdr n:=fun i n k=>by
  show hdr (ids.getD i 0)=_
  rw [List.getD_eq_getElem?_getD,k];rfl
 have hρ:∀ n m,inOf ids n=some m→hdr0 m=hdr n:=fun n m e=>hd0 m n (hin n m e)
 have hσ:∀ n m,outOf ids n=some m→hdr m=hdr0 n:=fun n m e=>(hd0 n m e).symm
 have hmem:∀ i,i<bs.length→∃ n b,ids[i]? = some n∧bs[i]? = some b∧findB h.blks n=some b:=fun i hi=>by
  have q1:ids[i]? = some (ids[i]'(by omega)):=List.getElem?_eq_getElem _
  refine ⟨_,bs[i],q1,List.getElem?_eq_getElem hi,?_⟩
  rw [hat i _ q1,List.getElem?_eq_getElem hi]
 have e0:∀ i b,findB (enumB 0 (bs.map (Blk.ren (inOf ids)))) i=some b→∃ n c,i<bs.length∧ids[i]? = some n∧bs[i]? = some c∧findB h.blks n=some c∧b=c.ren (inOf ids):=fun i b k=>by
  rw [ZnM,if_pos (Nat.zero_le _),Nat.sub_zero,List.getElem?_map,Option.map_eq_some_iff] at k
  obtain ⟨c,hc,rfl⟩:=k
  have hi:=(List.getElem?_eq_some_iff.1 hc).1
  obtain ⟨n,b',q1,q2,q3⟩:=hmem i hi
  rw [hc] at q2;cases q2
  exact ⟨n,c,hi,q1,hc,q3,rfl⟩
 have real0:HReal hdr0 S (enumB 0 (bs.map (Blk.ren (inOf ids)))) w:=by
  refine ⟨fun i b k=>?_,fun i j b b' n hij hi hj hni hnj=>?_,fun i b n hi hni=>?_,hr.mem⟩
  ·obtain ⟨n,c,hl,q1,q2,q3,rfl⟩:=e0 i b k
   exact Zu7 hρ (hr.blk n c q3) (hio i n q1)
  ·obtain ⟨x,c,hl,q1,q2,q3,rfl⟩:=e0 i b hi
   obtain ⟨y,d,hl',p1,p2,p3,rfl⟩:=e0 j b' hj
   rw [hd0 i x q1] at hni
   rw [hd0 j y p1] at hnj
   refine hr.sep x y c d n (fun exy=>?_) q3 p3 hni hnj
   subst exy
   have:=(hio i x q1).symm.trans (hio j x p1)
   cases this;exact hij rfl
  ·obtain ⟨x,c,hl,q1,q2,q3,rfl⟩:=e0 i b hi
   rw [hd0 i x q1] at hni
   exact hr.stb x c n q3 hni
 have ment0:Vc (fun n=>n<bs.length) (enumB 0 (bs.map (Blk.ren (inOf ids)))):=fun i b k=>by
  obtain ⟨n,c,hl,q1,q2,q3,rfl⟩:=e0 i b k
  exact ⟨hl,fun m hm=>k2 _ (List.mem_map.2 ⟨c,List.mem_of_getElem? q2,rfl⟩) m hm⟩
 have args0:VReps hdr0 S (AV.renL (inOf ids) (.ptr id off::rest)) vals:=Zoj hρ _ _ hv
 obtain ⟨hcall,hcalls⟩:=hq false _ ⟨enumB 0 (bs.map (Blk.ren (inOf ids))),bs.length⟩ ⟨[],[]⟩ _ h2 fb vals hdr0 S w (fun n=>n<bs.length) k6 real0 ment0 args0 k1 (fun n k=>.inl k)
 refine ⟨hcall,hcalls.mono ?_⟩
 rintro en w' ⟨u,hdr',S',rfl,p2,hv2,_⟩
 have hag:∀ i,i<bs.length→hdr' i=hdr0 i:=fun i hi=>p2.agree i (.inl hi)
 have hs2:∀ n m,outOf ids n=some m→hdr m=hdr' n:=fun n m e=>by
  have:n<ids.length:=(List.getElem?_eq_some_iff.1 e).1
  rw [hag n (by omega)];exact hσ n m e
 have own0:∀ n,own (enumB 0 (bs.map (Blk.ren (inOf ids)))) hdr0 n→∃ x c,x∈ids∧findB h.blks x=some c∧blkOf (hdr x)=some n:=fun n ⟨i,b,k,kb⟩=>by
  obtain ⟨x,c,hl,q1,q2,q3,rfl⟩:=e0 i b k
  rw [hd0 i x q1] at kb
  exact ⟨x,c,List.mem_of_getElem? q1,q3,kb⟩
 have hall:∀ n∈ids,∃ b,findB h.blks n=some b:=fun n hn=>by
  obtain ⟨i,hi,rfl⟩:=List.mem_iff_getElem.1 hn
  obtain ⟨m,b,q1,q2,q3⟩:=hmem i (by omega)
  rw [List.getElem?_eq_getElem hi] at q1;cases q1
  exact ⟨b,q3⟩
 have hl2:ids.length=(bs2.map (Blk.ren (outOf ids))).length:=by simp;omega
 have fput:∀ j c,findB (putB h.blks ids (bs2.map (Blk.ren (outOf ids)))) j=some c→(∃ i b,ids[i]? = some j∧bs2[i]? = some b∧c=b.ren (outOf ids)∧i<bs.length)∨(j ∉ ids∧findB h.blks j=some c):=fun j c k=>by
  have hp:=ZRo (j:=j) hnd hl2 hall
  by_cases hj:j∈ids
  ·obtain ⟨i,hi,rfl⟩:=List.mem_iff_getElem.1 hj
   rw [hp.1 i (List.getElem?_eq_getElem hi),List.getElem?_map,Option.map_eq_some_iff] at k
   obtain ⟨b,hb,rfl⟩:=k
   exact .inl ⟨i,b,List.getElem?_eq_getElem hi,hb,rfl,by omega⟩
  ·rw [hp.2 hj] at k
   exact .inr ⟨hj,k⟩
 have ffound:∀ j c,findB (putB h.blks ids (bs2.map (Blk.ren (outOf ids)))) j=some c→∃ b,findB h.blks j=some b:=fun j c k=>by
  rcases fput j c k with ⟨i,b,q1,_⟩ | ⟨_,q⟩
  ·exact hall j (List.mem_of_getElem? q1)
  ·exact ⟨c,q⟩
 have hfar:∀ j c,j ∉ ids→findB h.blks j=some c→∀ n,blkOf (hdr j)=some n→¬ own (enumB 0 (bs.map (Blk.ren (inOf ids)))) hdr0 n:=fun j c hj hf n hn k=>by
  obtain ⟨x,d,hx,q1,q2⟩:=own0 n k
  exact hr.sep j x c d n (fun e=>hj (e ▸ hx)) hf q1 hn q2
 have post:Post tr ok hdr S h w hdr S' ⟨putB h.blks ids (bs2.map (Blk.ren (outOf ids))),h.c⟩ w':=by
  refine ⟨Nat.le_refl _,fun _ _=>rfl,⟨fun j c k=>?_,fun i j b b' n hij hi hj hni hnj=>?_,fun i b n hi hni=>?_,p2.real.mem⟩,⟨p2.step.os,p2.step.tape,p2.step.output,p2.step.size,fun n hn ho=>p2.step.frame n hn fun k=>?_,fun n k=>?_,p2.step.sle,fun n c k=>?_⟩,fun j c k=>?_⟩
  ·rcases fput j c k with ⟨i,b,q1,q2,rfl,hi⟩ | ⟨hj,hf⟩
   ·exact Zu7 hs2 (p2.real.blk i b (by rw [k7 i hi];exact q2)) q1
   ·have br:=hr.blk j c hf
    exact br.congr p2.step.sle rfl (fun _ _=>rfl) fun n hn=>p2.step.frame n (br.lt hn) (hfar j c hj hf n hn)
  ·obtain ⟨c,hc⟩:=ffound i b hi
   obtain ⟨d,hd⟩:=ffound j b' hj
   exact hr.sep i j c d n hij hc hd hni hnj
  ·rcases fput i b hi with ⟨x,c,q1,q2,rfl,hx⟩ | ⟨hj,hf⟩
   ·exact p2.real.stb x c n (by rw [k7 x hx];exact q2) (by rw [← hs2 x i q1];exact hni)
   ·cases hs:S' n with
    | none=>rfl
    | some c=>
     exfalso
     rcases p2.step.snew n c hs with k | k | k
     ·rw [hr.stb i b n hf hni] at k;cases k
     ·exact hfar i b hj hf n hni k
     ·have:=(hr.blk i b hf).lt hni
      omega
  ·obtain ⟨x,c,hx,q1,q2⟩:=own0 n k
   exact ho ⟨x,c,q1,q2⟩
  ·obtain ⟨j,c,hf,hb⟩:=k
   obtain ⟨b,hb'⟩:=ffound j c hf
   exact .inl ⟨j,b,hb',hb⟩
  ·rcases p2.step.snew n c k with k | k | k
   ·exact .inl k
   ·obtain ⟨x,d,hx,q1,q2⟩:=own0 n k
    exact .inr (.inl ⟨x,d,q1,q2⟩)
   ·exact .inr (.inr k)
  ·rcases fput j c k with ⟨i,b,q1,q2,rfl,hi⟩ | ⟨hj,hf⟩
   ·obtain ⟨b',hb'⟩:=hall j (List.mem_of_getElem? q1)
    refine ⟨.inl (hm j b' hb').1,fun n hn=>?_⟩
    obtain ⟨m,_,em⟩:=ZFr hn
    obtain ⟨b'',hb''⟩:=hall n (List.mem_of_getElem? em)
    exact .inl (hm n b'' hb'').1
   ·exact ⟨.inl (hm j c hf).1,fun n hn=>.inl ((hm j c hf).2 n hn)⟩
 exact ⟨u,hdr,S',rfl,post,hv2.mono (fun _ _ k=>k) fun n hn=>(by rw [k3] at hn;cases hn),fun n hn=>by rw [k3] at hn;cases hn⟩
end
end
section
section
variable [RT] {P:Program}
def lowSh (k:Nat):Sh→Bool
 | .ptr n _=>leB (n+1) k
 | .row n=>leB (n+1) k
 | s=>free s
def lowB (k:Nat):BSh→Bool
 | .box cs=>cs.all (lowSh k)
 | .row _=>true
theorem Z1h {k:Nat} {s:Sh} {d:ShD s} (h:lowSh k s=true):∀ n∈(mk s d).ids,n<k:=by
 intro n hn
 cases s with
 | ptr a b=>
  simp only [mk,AV.ids,List.mem_singleton] at hn
  subst hn;exact Z2.1 h
 | row a=>
  simp only [mk,AV.ids,List.mem_singleton] at hn
  subst hn;exact Z2.1 h
 | _=>rw [ZzJ _ d h] at hn;cases hn
theorem ZUd {k:Nat}:∀ {s:List Sh} {d:Ht s},s.all (lowSh k)=true→∀ n∈AV.idsL (mks s d),n<k
 | [],d,h,n,hn=>by cases hn
 | s::r,d,h,n,hn=>by
  simp only [List.all_cons,Bool.and_eq_true] at h
  simp only [mks,AV.idsL,List.mem_append] at hn
  rcases hn with hn | hn
  ·exact Z1h h.1 n hn
  ·exact ZUd h.2 n hn
theorem Z0g {k:Nat} {s:BSh} {d:ZTg s} (h:lowB k s=true):∀ n∈(mkB s d).ids,n<k:=by
 cases s with
 | box cs=>exact ZUd (d:=d) h
 | row e=>intro n hn;cases hn
theorem ZNE {k:Nat}:∀ {s:List (Nat×BSh)} {d:Zht s},s.all (fun p=>lowB k p.2)=true→∀ b∈(mkH s d).map (·.2),∀ n∈b.ids,n<k
 | [],d,h,b,hb,n,hn=>by cases hb
 | s::r,d,h,b,hb,n,hn=>by
  simp only [List.all_cons,Bool.and_eq_true] at h
  simp only [mkH,List.map_cons,List.mem_cons] at hb
  rcases hb with rfl | hb
  ·exact Z0g h.1 n hn
  ·exact ZNE h.2 b hb n hn
theorem ZP3:∀ (s:List (Nat×BSh)) (d:Zht s),(mkH s d).length=s.length
 | [],d=>rfl
 | s::r,d=>by simp only [mkH,List.length_cons,ZP3 r]
theorem ZNq:∀ (bs:List Blk) (i:Nat),(enumB i bs).map (·.2)=bs
 | [],i=>rfl
 | b::bs,i=>by simp only [enumB,List.map_cons,ZNq bs]
def meN (ash:List Sh) (hsh:List (Nat×BSh)) (rs:Sh) (ho:List (Nat×BSh)) (G:Ht ash→Zht hsh→Option (ShD rs×Zht ho)) (args:List AV) (bs:List Blk):Option (AV×List Blk):=
 (rds ash args).bind fun x=>(rdH hsh (enumB 0 bs)).bind fun y=>(G x y).map fun r=>(mk rs r.1,(mkH ho r.2).map (·.2))
def meC (ash:List Sh) (hsh:List (Nat×BSh)) (rs:Sh) (ho:List (Nat×BSh)) (G:Ht ash→Zht hsh→Option (ShD rs×Zht ho)):List AV→Prog AV:=meP (meN ash hsh rs ho G)
noncomputable def evMX (cx:Ctx) (keeps:FuncId→List Nat) (n:Nat) (g:FuncId) (ash:List Sh) (hsh:List (Nat×BSh)) (rs:Sh) (ho:List (Nat×BSh)) (x:Ht ash) (y:Zht hsh):Option (ShD rs×Zht ho):=
 evFX cx keeps n g (mks ash x) false ⟨mkH hsh y,hsh.length⟩ ⟨[],[]⟩ fun v h _=>(rd rs v).bind fun r=>(getB h.blks (List.range hsh.length)).bind fun bs=>(rdH ho (enumB 0 bs)).map fun z=>(r,z)
def qInM (sh:List Sh) (rs:Sh) (q:List AV→Prog AV) (args:List AV):Prog AV:=.opt (rds sh args) fun x=>(q (mks sh x)).bind fun v=>.opt (rd rs v) fun d=>.ret (mk rs d)
theorem ZXZ {g:FuncId} {q:List AV→Prog AV} (hq:Zd P g q) {sh:List Sh} {rs:Sh} (hf:frees sh=true) (hrs:free rs=true):Zd P g (qInM (.ptr 0 0::sh) rs q):=by
 intro tr args h ft v h' ft' vals hdr S w ok e hr hm hv hi hO
 obtain ⟨x,e1,e2⟩:=Zu e
 obtain ⟨v0,h1,f1,e3,e4⟩:=Qf e2
 obtain ⟨d,e5,e6⟩:=Zu e4
 cases Zt e6
 have h0:0∈AV.idsL args:=by
  cases args with
  | nil=>simp [rds] at e1
  | cons a r=>
   simp only [rds,Option.bind_eq_some_iff] at e1
   obtain ⟨y,k1,_⟩:=e1
   have:a=mk (.ptr 0 0) y:=V8 _ _ _ rfl k1
   subst this
   simp [mk,AV.idsL,AV.ids]
 obtain ⟨c1,c2⟩:=hq tr _ h ft v0 _ _ vals hdr S w ok e3 hr hm (Zro _ _ x vals e1 hv) (fun n hn=>by
  simp only [mks,AV.idsL,mk,AV.ids,List.mem_append,List.mem_singleton,Zrm _ _ hf] at hn
  rcases hn with rfl | hn
  ·exact hi 0 h0
  ·cases hn) hO
 refine ⟨c1,c2.mono ?_⟩
 rintro en w' ⟨u,hdr',S',rfl,p1,k3,k4⟩
 exact ⟨u,hdr',S',rfl,p1,ZUW rs v0 d u e5 k3,fun n hn=>by rw [ZzJ rs d hrs] at hn;cases hn⟩
theorem ZYN {g:FuncId} {cx:Ctx} {keeps:FuncId→List Nat} {n:Nat} (hq:Zd P g (evF cx keeps n g)) {ash:List Sh} {hsh:List (Nat×BSh)} {rs:Sh} {ho:List (Nat×BSh)} (h1:frees ash=true) (h2:free rs=true)
  (h3:(Zru hsh&&Zru ho&&hsh.all (fun p=>lowB hsh.length p.2)&&ho.all (fun p=>lowB hsh.length p.2)&&Nat.beq ho.length hsh.length&&leB 1 hsh.length)=true)
  {G:Ht (.ptr 0 0::ash)→Zht hsh→Option (ShD rs×Zht ho)} (hG:∀ x y r,G x y=some r→evMX cx keeps n g (.ptr 0 0::ash) hsh rs ho x y=some r):Zd P g (meC (.ptr 0 0::ash) hsh rs ho G):=by
 simp only [Bool.and_eq_true] at h3
 obtain ⟨⟨⟨⟨⟨s1,s2⟩,l1⟩,l2⟩,le⟩,lk⟩:=h3
 have le:=Nat.eq_of_beq_eq_true le
 have lk:=Z2.1 lk
 refine ZZn (ZXZ (sh:=ash) (rs:=rs) hq h1 h2) fun args bs v bs2 e=>?_
 simp only [meN,Option.bind_eq_some_iff,Option.map_eq_some_iff,Prod.mk.injEq] at e
 obtain ⟨x,e1,y,e2,⟨r,z⟩,e3,rfl,rfl⟩:=e
 have hb:=ZF2 s1 e2
 have hbs:bs=(mkH hsh y).map (·.2):=by rw [← hb,ZNq]
 have hlen:bs.length=hsh.length:=by rw [hbs,List.length_map,ZP3]
 have e4:=hG x y _ e3
 unfold evMX at e4
 rw [ZvP,Yd,Option.bind_eq_some_iff] at e4
 obtain ⟨⟨v0,h2',fb⟩,e5,e6⟩:=e4
 simp only [Option.bind_eq_some_iff,Option.map_eq_some_iff,Prod.mk.injEq] at e6
 obtain ⟨r',e7,bs',e8,z',e9,rfl,rfl⟩:=e6
 have hb':=ZF2 s2 e9
 have hbs':bs'=(mkH ho z').map (·.2):=by rw [← hb',ZNq]
 obtain ⟨_,hat⟩:=ZPW e8
 refine ⟨fun n hn=>?_,fun b hbm n hn=>?_,ZzJ rs r' h2,?_,fun b hbm n hn=>?_,h2',fb,?_,fun i hi=>?_⟩
 ·have h0:AV.idsL args=[0]∨AV.idsL args=[0]:=by
   cases args with
   | nil=>simp [rds] at e1
   | cons a rr=>
    simp only [rds,Option.bind_eq_some_iff] at e1
    obtain ⟨y0,k1,e1'⟩:=e1
    have ha:a=mk (.ptr 0 0) y0:=V8 _ _ _ rfl k1
    cases k3:rds ash rr with
    | none=>rw [k3] at e1';cases e1'
    | some k2=>
     have:=ZoK ash rr k2 h1 k3
     subst ha
     simp [mk,AV.idsL,AV.ids,this]
  have h0:=h0.elim id id
  rw [h0,List.mem_singleton] at hn
  omega
 ·rw [hlen]
  rw [hbs] at hbm
  exact ZNE l1 b hbm n hn
 ·rw [List.length_map,ZP3,hlen,le]
 ·rw [hlen]
  exact ZNE l2 b hbm n hn
 ·have e5':ex (evF cx keeps n g (mks (.ptr 0 0::ash) x)) false ⟨enumB 0 bs,bs.length⟩ ⟨[],[]⟩=some (v0,h2',fb):=by rw [hb,hlen];exact e5
  show ex (Prog.opt (rds _ args) fun x=>(evF cx keeps n g (mks _ x)).bind fun v=>.opt (rd rs v) fun d=>.ret (mk rs d)) false _ _=_
  rw [e1]
  show ex ((evF cx keeps n g (mks _ x)).bind fun v=>.opt (rd rs v) fun d=>.ret (mk rs d)) false _ _=_
  unfold ex
  rw [run_bind,Yd,e5']
  simp only [Option.bind_some,e7,run]
 ·have:=hat i i (by rw [List.getElem?_range (by omega)])
  rw [this,hbs']
def meQ (ash:List Sh) (hsh:List (Nat×BSh)) (rs:Sh) (ho:List (Nat×BSh)) (G:Ht ash→Zht hsh→Option (ShD rs×Zht ho)) (args:List AV):Prog AV:=match args with
 | .ptr id _::_=>.get id fun
  | .box cs=>.ite (QE (id::Zen cs)) (getsP (id::Zen cs) fun bs=>
    .opt (rds ash (AV.renL (inOf (id::Zen cs)) args)) fun x=>.opt (rdH hsh (enumB 0 (bs.map (Blk.ren (inOf (id::Zen cs)))))) fun y=>.opt (G x y) fun r=>
     putsP (id::Zen cs) (((mkH ho r.2).map (·.2)).map (Blk.ren (outOf (id::Zen cs)))) (.ret (mk rs r.1))) .fail
  | .row _ _=>.fail
 | _=>.fail
theorem Z0x {R:Type} {tr:Bool} {K:AV→Hp→Foot→Option R} {k k':List Blk→Prog AV} (e:∀ bs h f,run (k bs) tr h f K=run (k' bs) tr h f K):∀ (ids:List Nat) (h:Hp) (f:Foot) ,run (getsP ids k) tr h f K=run (getsP ids k') tr h f K:=by
 intro ids
 induction ids generalizing k k' with
 | nil=>exact e []
 | cons i ids ih=>
  intro h f
  simp only [getsP,run]
  cases findB h.blks i with
  | none=>rfl
  | some b=>exact ih (k:=fun bs=>k (b::bs)) (k':=fun bs=>k' (b::bs)) (fun bs=>e (b::bs)) h _
theorem Z2K {ash:List Sh} {hsh:List (Nat×BSh)} {rs:Sh} {ho:List (Nat×BSh)} {G:Ht ash→Zht hsh→Option (ShD rs×Zht ho)} (args:List AV) (tr:Bool) (h:Hp) (f:Foot):ex (meQ ash hsh rs ho G args) tr h f=ex (meC ash hsh rs ho G args) tr h f:=by
 unfold meQ meC meP
 cases args with
 | nil=>rfl
 | cons a r=>
 cases a
 case ptr id off=>
  unfold ex
  simp only [run]
  cases findB h.blks id with
  | none=>rfl
  | some b=>
   cases b with
   | row e l=>rfl
   | box cs=>
    simp only [run]
    cases QE (id::Zen cs)
    ·rfl
    ·refine Z0x (fun bs h f=>?_) _ _ _
     simp only [run,meN]
     generalize rds ash _=a
     cases a with
     | none=>rfl
     | some x=>
      simp only [Option.bind_some]
      generalize rdH hsh _=b
      cases b with
      | none=>rfl
      | some y=>
       simp only [Option.bind_some]
       cases G x y<;>rfl
 all_goals rfl
theorem ZRD {g:FuncId} {cx:Ctx} {keeps:FuncId→List Nat} {n:Nat} (hq:Zd P g (evF cx keeps n g)) {ash:List Sh} {hsh:List (Nat×BSh)} {rs:Sh} {ho:List (Nat×BSh)} (h1:frees ash=true) (h2:free rs=true)
  (h3:(Zru hsh&&Zru ho&&hsh.all (fun p=>lowB hsh.length p.2)&&ho.all (fun p=>lowB hsh.length p.2)&&Nat.beq ho.length hsh.length&&leB 1 hsh.length)=true)
  {G:Ht (.ptr 0 0::ash)→Zht hsh→Option (ShD rs×Zht ho)} (hG:∀ x y r,G x y=some r→evMX cx keeps n g (.ptr 0 0::ash) hsh rs ho x y=some r):Zd P g (meQ (.ptr 0 0::ash) hsh rs ho G):=by
 intro tr args h ft v h' ft' vals hdr S w ok e
 rw [Z2K] at e
 exact ZYN hq h1 h2 h3 hG tr args h ft v h' ft' vals hdr S w ok e
end
end
section
open Go.Proofs Go.Proofs.YtbdcblpjemmipaaGreat
abbrev Zjw:Type:=(((List Int)×((List Int)×(Int×((List C)×(Int×((List En)×((List A)×(Unit×(Unit×((List Int)×Unit))))))))))×((List E)×((List Int)×Unit)))
abbrev Zrw:Type:=(Bool×Zjw)
def ZtF:List Sh:=[.ptr 0 0,.int .i64,.int .i64,.dat tE]
def ZwG:List Con:=[⟨112,Zzg,ZKM⟩,⟨113,ZHG,ZSQ⟩,⟨114,ZJN,ZVa⟩]
def ZFp:List Sh:=[.int .i64,.int .i64,.dat tE]
def ZfV:List (Nat×BSh):=[(0,.box [.sl (.int .i64),.sl (.int .i64),.int .i64,.sl tC,.int .i64,.sl tEn,.sl tA,.row 1,.row 2,.sl (.int .i64)]),(1,.row tE),(2,.row (.int .i64))]
def Zir (a0 a1:Int) (a2:E) (b0 b1:List Int) (b2:Int) (b3:List C) (b4:Int) (b5:List En) (b6:List A) (b7:List Int) (b8:List E) (b9:List Int):Option Zrw:=
 bif !a2.1 then some (false,(b0,b1,b2,b3,b4,b5,b6,PUnit.unit,PUnit.unit,b7,PUnit.unit),b8,b9,PUnit.unit)
 else
 bif decide (0≤a1) then
 optC b8[a1.toNat]? none fun d14=>
 optC b8[a1.toNat]? none fun d15=>
 optC (Zov ([d15,a2],())) none fun d16=>
 bif decide (a1≤a0) then
 bif decide (0≤a1) then
 optC b9[a1.toNat]? none fun d17=>
 optC b9[a1.toNat]? none fun d18=>
 bif decide (d18≥3) then
 bif decide (0≤a1) then
 optC b8[a1.toNat]? none fun d19=>
 optC b8[a1.toNat]? none fun d20=>
 optC (ZBV (d20,d16,b7,())) none fun d21=>
 bif decide (0≤a1) then
 optC b8[a1.toNat]? none fun d22=>
 optC b8[a1.toNat]? none fun d23=>
 optC (ZrF (d21,d23,())) none fun d24=>
 bif d24 then some (false,(b0,b1,b2,b3,b4,b5,b6,PUnit.unit,PUnit.unit,b7,PUnit.unit),b8,b9,PUnit.unit)
 else
 bif decide (0≤a1) then
 optC b8[a1.toNat]? none fun d25=>
 optC b8[a1.toNat]? none fun d26=>
 bif decide (a1≤a0) then
 bif decide (0≤a1) then
 optC b9[a1.toNat]? none fun d27=>
 optC b9[a1.toNat]? none fun d28=>
 bif decide (0≤a1) then
 optC b9[a1.toNat]? none fun d29=>
 optC b9[a1.toNat]? none fun d30=>
 some
 (true,(b0,b1,b2,b3,b4,b5,b6,PUnit.unit,PUnit.unit,b7,PUnit.unit),b8.set a1.toNat d21,
 b9.set a1.toNat (IntKind.i64.wrap (d28+1)),PUnit.unit)
 else none
 else none
 else some (true,(b0,b1,b2,b3,b4,b5,b6,PUnit.unit,PUnit.unit,b7,PUnit.unit),b8.set a1.toNat d21,b9,PUnit.unit)
 else none
 else none
 else none
 else
 bif decide (0≤a1) then
 optC b8[a1.toNat]? none fun d19=>
 optC b8[a1.toNat]? none fun d20=>
 optC (ZrF (d16,d20,())) none fun d21=>
 bif d21 then some (false,(b0,b1,b2,b3,b4,b5,b6,PUnit.unit,PUnit.unit,b7,PUnit.unit),b8,b9,PUnit.unit)
 else
 bif decide (0≤a1) then
 optC b8[a1.toNat]? none fun d22=>
 optC b8[a1.toNat]? none fun d23=>
 bif decide (a1≤a0) then
 bif decide (0≤a1) then
 optC b9[a1.toNat]? none fun d24=>
 optC b9[a1.toNat]? none fun d25=>
 bif decide (0≤a1) then
 optC b9[a1.toNat]? none fun d26=>
 optC b9[a1.toNat]? none fun d27=>
 some
 (true,(b0,b1,b2,b3,b4,b5,b6,PUnit.unit,PUnit.unit,b7,PUnit.unit),b8.set a1.toNat d16,
 b9.set a1.toNat (IntKind.i64.wrap (d25+1)),PUnit.unit)
 else none
 else none
 else some (true,(b0,b1,b2,b3,b4,b5,b6,PUnit.unit,PUnit.unit,b7,PUnit.unit),b8.set a1.toNat d16,b9,PUnit.unit)
 else none
 else none
 else none
 else
 bif decide (0≤a1) then
 optC b8[a1.toNat]? none fun d17=>
 optC b8[a1.toNat]? none fun d18=>
 optC (ZrF (d16,d18,())) none fun d19=>
 bif d19 then some (false,(b0,b1,b2,b3,b4,b5,b6,PUnit.unit,PUnit.unit,b7,PUnit.unit),b8,b9,PUnit.unit)
 else
 bif decide (0≤a1) then
 optC b8[a1.toNat]? none fun d20=>
 optC b8[a1.toNat]? none fun d21=>
 bif decide (a1≤a0) then
 bif decide (0≤a1) then
 optC b9[a1.toNat]? none fun d22=>
 optC b9[a1.toNat]? none fun d23=>
 bif decide (0≤a1) then
 optC b9[a1.toNat]? none fun d24=>
 optC b9[a1.toNat]? none fun d25=>
 some
 (true,(b0,b1,b2,b3,b4,b5,b6,PUnit.unit,PUnit.unit,b7,PUnit.unit),b8.set a1.toNat d16,b9.set a1.toNat (IntKind.i64.wrap (d23+1)),
 PUnit.unit)
 else none
 else none
 else some (true,(b0,b1,b2,b3,b4,b5,b6,PUnit.unit,PUnit.unit,b7,PUnit.unit),b8.set a1.toNat d16,b9,PUnit.unit)
 else none
 else none
 else none
theorem ZIz (a0 a1:Int) (a2:E) (b0 b1:List Int) (b2:Int) (b3:List C) (b4:Int) (b5:List En) (b6:List A) (b7:List Int) (b8:List E) (b9:List Int):evMX (cxU ZwG [] 40 1048576) keeps 8 80 ZtF ZfV (.bool) ZfV (((),a0,a1,a2,()):(Unit×(Int×(Int×(E×Unit))))) (((b0,b1,b2,b3,b4,b5,b6,(),(),b7,()),b8,b9,()):Zjw)=Zir a0 a1 a2 b0 b1 b2 b3 b4 b5 b6 b7 b8 b9:=by kernel_rfl
def Zcg (x:(Unit×(Int×(Int×(E×Unit))))) (y:Zjw):Option Zrw:=Zir x.2.1 x.2.2.1 x.2.2.2.1 y.1.1 y.1.2.1 y.1.2.2.1 y.1.2.2.2.1 y.1.2.2.2.2.1 y.1.2.2.2.2.2.1 y.1.2.2.2.2.2.2.1 y.1.2.2.2.2.2.2.2.2.2.1 y.2.1 y.2.2.1
def ZtK:List AV→Prog AV:=meQ ZtF ZfV (.bool) ZfV Zcg
theorem ZJh:Zd Tryz.prog 80 ZtK:=ZRD (ash:=ZFp) (calU ZwG [] 40 1048576 8 80) (by rfl) (by rfl) (by rfl) (fun x y r e=>(ZIz x.2.1 x.2.2.1 x.2.2.2.1 y.1.1 y.1.2.1 y.1.2.2.1 y.1.2.2.2.1 y.1.2.2.2.2.1 y.1.2.2.2.2.2.1 y.1.2.2.2.2.2.2.1 y.1.2.2.2.2.2.2.2.2.2.1 y.2.1 y.2.2.1).trans e)
end
section
open Go.Proofs Go.Proofs.YtbdcblpjemmipaaGreat
abbrev ZFf:Type:=(Int×Int×Int×Int×(List Int)×Int×Int×(List O)×Bool×(List I)×(List I)×(List I)×Int×Int×Bool×(List I)×(List I)×(List I)×Int×Int×(List Int)×(List En)×(List Ac)×Int×Bool×(List Int)×(List Int)×Int×(List C)×Int×(List En)×(List A)×(List Int)×(List E)×(List Int)×Int×Bool×(List En)×(List Ac)×(List Al))
abbrev ZoS:Type:=(Int×Int×Int×Int×(List O)×Bool×(List I)×(List I)×(List I)×Int×Int×Bool×(List I)×(List I)×(List I)×Int×Int×(List Int)×(List En)×(List Ac)×Int×Bool×(List Int)×(List Int)×Int×(List C)×Int×(List En)×(List A)×(List Int)×(List E)×(List Int)×Int×Bool×(List En)×(List Ac)×(List Al))
abbrev ZFg:Type:=((List O)×Bool×(List I)×(List I)×(List I)×Int×Int×Bool×(List I)×(List I)×(List I)×Int×Int×(List Int)×(List En)×(List Ac)×Int×Bool×(List Int)×(List Int)×Int×(List C)×Int×(List En)×(List A)×(List Int)×(List E)×(List Int)×Int×Bool×(List En)×(List Ac)×(List Al))
abbrev ZFh:Type:=(Int×Int×Int×Int×Bool×(List Int)×(List Int)×Int×(List C)×Int×(List En)×(List A)×(List Int)×(List E)×(List Int)×Int×Bool×(List En)×(List Ac)×(List Al))
abbrev ZFi:Type:=(Int×Bool×(List Int)×(List Int)×Int×(List C)×Int×(List En)×(List A)×(List Int)×(List E)×(List Int)×Int×Bool×(List En)×(List Ac)×(List Al))
abbrev ZFj:Type:=(Bool×(List A)×Int×Int×Int×Bool×(List Int)×(List Int)×Int×(List C)×Int×(List En)×(List A)×(List Int)×(List E)×(List Int)×Int×Bool)
abbrev ZoT:Type:=(Int×(List A)×Int×Bool×(List Int)×(List Int)×Int×(List C)×Int×(List En)×(List A)×(List Int)×(List E)×(List Int)×Int×Bool)
abbrev ZFk:Type:=(Bool×Int×Bool×(List Int)×(List Int)×Int×(List C)×Int×(List En)×(List A)×(List Int)×(List E)×(List Int)×Int×Bool)
def ZMd:List Sh:=[.dat tU,.dat (.int .i64),.dat (.sl tEn)]
def ZsR:Nat→List Nat:=fun c=>bif c.beq 0 then [0,3,12,13,14] else [3]
def ZsQ:Nat→List Nat:=fun c=>bif c.beq 0 then [1,6,7,8,9] else [1,6,7,8,9]
def Zns:Nat→List Nat:=fun c=>bif c.beq 0 then [0,1,2,12,13,14,39,40,41] else [0,1,2,12,13,14]
def Znr:Nat→List Nat:=fun c=>bif c.beq 0 then [0,1,2,12,13,14] else []
def Znq:Nat→List Nat:=fun c=>bif c.beq 0 then [1,6,8,9,57,58] else [6,8,9]
def ZaF:List Con:=[⟨43,ZHF,ZSP⟩,⟨50,ZwO,ZHY⟩,⟨81,ZB4,ZMR⟩,⟨63,ZB2,ZMP⟩,⟨80,ZtK,ZJh⟩]
def ZaP:StS:=⟨[(0,.ptr 1 0),(3,.bool),(12,.sl tA),(13,.int .i64),(14,.int .i64)],[(0,.box [.nil,.nil,.nil,.nil,.int .i64,.bool]),(1,.box [.sl (.int .i64),.sl (.int .i64),.int .i64,.sl tC,.int .i64,.sl tEn,.sl tA,.row 2,.row 3,.sl (.int .i64)]),(2,.row tE),(3,.row (.int .i64)),(4,.box [.nil,.nil,.nil,.nil,.int .i64,.bool])],5⟩
def Zbq:StS:=⟨[(3,.bool)],[(0,.box [.nil,.nil,.nil,.nil,.int .i64,.bool]),(1,.box [.sl (.int .i64),.sl (.int .i64),.int .i64,.sl tC,.int .i64,.sl tEn,.sl tA,.row 2,.row 3,.sl (.int .i64)]),(2,.row tE),(3,.row (.int .i64)),(4,.box [.nil,.nil,.nil,.nil,.int .i64,.bool])],5⟩
abbrev ZaG:=ZFj
def Zxa:StD ZaP→ZaG:=fun ((_,a,b,c,d,_),((_,_,_,_,e,f,_),(g,h,i,j,k,l,m,_,_,n,_),o,p,(_,_,_,_,q,r,_),_))=>(a,b,c,d,e,f,g,h,i,j,k,l,m,n,o,p,q,r)
def ZpC:ZaG→StD ZaP:=fun (a,b,c,d,e,f,g,h,i,j,k,l,m,n,o,p,q,r)=>(((),a,b,c,d,()),(((),(),(),(),e,f,()),(g,h,i,j,k,l,m,(),(),n,()),o,p,((),(),(),(),q,r,()),()))
abbrev Vi:=ZFk
def ZIm:StD Zbq→Vi:=fun ((a,_),((_,_,_,_,b,c,_),(d,e,f,g,h,i,j,_,_,k,_),l,m,(_,_,_,_,n,o,_),_))=>(a,b,c,d,e,f,g,h,i,j,k,l,m,n,o)
def ZmW:Vi→StD Zbq:=fun (a,b,c,d,e,f,g,h,i,j,k,l,m,n,o)=>((a,()),(((),(),(),(),b,c,()),(d,e,f,g,h,i,j,(),(),k,()),l,m,((),(),(),(),n,o,()),()))
def Zep (s3:Bool) (s12:List A) (s13 s14 b0:Int) (b0_1:Bool) (b1 b1_1:List Int) (b1_2:Int) (b1_3:List C) (b1_4:Int) (b1_5:List En) (b1_6:List A) (b1_7:List Int) (b2:List E) (b3:List Int) (b4:Int) (b4_1:Bool):Option (ZFj⊕ZFk):=
 bif decide (s14<s13) then
 bif decide (0≤s14) then
 optC s12[s14.toNat]? none fun d24=>
 bif decide (0≤s14) then
 optC b2[s14.toNat]? none fun d25=>
 optC b2[s14.toNat]? none fun d26=>
 optC (ZgJ ((b1,b1_1,b1_2,b1_3),b1_4,s14,d26,b1_5,())) none fun d27=>
 optC (Zcg ((),s14,d24.2.2.2.2.2.2.2.1,d27.1,()) ((b1,b1_1,b1_2,b1_3,b1_4,b1_5,b1_6,(),(),b1_7,()),b2,b3,())) none
 fun d28=>
 optC
 (Zcg ((),s14,d24.2.2.2.2.2.2.2.2,d27.2.1,())
 ((d28.2.1.1,d28.2.1.2.1,d28.2.1.2.2.1,d28.2.1.2.2.2.1,d28.2.1.2.2.2.2.1,d28.2.1.2.2.2.2.2.1,
 d28.2.1.2.2.2.2.2.2.1,(),(),d28.2.1.2.2.2.2.2.2.2.2.2.1,()),
 d28.2.2.1,d28.2.2.2.1,()))
 none fun d29=>
 bif s3 then
 some
 (Sum.inl
 (true,s12,s13,IntKind.i64.wrap (s14+1),b0,b0_1,d29.2.1.1,d29.2.1.2.1,d29.2.1.2.2.1,d29.2.1.2.2.2.1,
 d29.2.1.2.2.2.2.1,d29.2.1.2.2.2.2.2.1,d29.2.1.2.2.2.2.2.2.1,d29.2.1.2.2.2.2.2.2.2.2.2.1,
 d29.2.2.1,d29.2.2.2.1,b4,b4_1))
 else
 bif d28.1 then
 some
 (Sum.inl
 (true,s12,s13,IntKind.i64.wrap (s14+1),b0,b0_1,d29.2.1.1,d29.2.1.2.1,d29.2.1.2.2.1,d29.2.1.2.2.2.1,
 d29.2.1.2.2.2.2.1,d29.2.1.2.2.2.2.2.1,d29.2.1.2.2.2.2.2.2.1,d29.2.1.2.2.2.2.2.2.2.2.2.1,
 d29.2.2.1,d29.2.2.2.1,b4,b4_1))
 else
 some
 (Sum.inl
 (d29.1,s12,s13,IntKind.i64.wrap (s14+1),b0,b0_1,d29.2.1.1,d29.2.1.2.1,d29.2.1.2.2.1,d29.2.1.2.2.2.1,
 d29.2.1.2.2.2.2.1,d29.2.1.2.2.2.2.2.1,d29.2.1.2.2.2.2.2.2.1,d29.2.1.2.2.2.2.2.2.2.2.2.1,
 d29.2.2.1,d29.2.2.2.1,b4,b4_1))
 else none
 else none
 else some (Sum.inr (s3,b0,b0_1,b1,b1_1,b1_2,b1_3,b1_4,b1_5,b1_6,b1_7,b2,b3,b4,b4_1))
def Zpt:ZaG→Option (ZaG⊕Vi):=fun (a,b,c,d,e,f,g,h,i,j,k,l,m,n,o,p,q,r)=>Zep a b c d e f g h i j k l m n o p q r
theorem ZLV (x:ZaG):rdX (cxU ZaF [] 40 1048576) keeps 8 ⟨51,45,keeps 51,5⟩ 0 (bodyX 51 0) 5 ZsR (sT ZaP (ZpC x)) (sH ZaP (ZpC x)) (rdO (fun T h=>(rdS ZaP T h).map Zxa) (getE 2 Zbq ZIm))=Zpt x:=by kernel_rfl
def Zfl (x:ZaG):Option Vi:=iterO Zpt Zj x
def ZEh:Nat→Tm→Prog (Nat×Tm):=(varP 5 (fun T h=>(rdS ZaP T h).map Zxa) Zfl (altE 2 Zbq ZmW) (fun _ _=>.fail))
def Ka:Lpc:=⟨51,0,45,(fun base T=>.norm base (ZsR 0) T (ZEh base)),by kernel_rfl,by kernel_rfl,(loopU ZaF [] 40 1048576 8 (keep:=ZsR) (q:=ZEh) (by kernel_rfl) (Zp (s:=ZaP) (un:=ZpC) (by rfl) (fun _=>rfl) (Zi (s:=Zbq) (un:=ZmW) (by rfl) (fun _=>rfl)) (step:=Zpt) ZLV (fun _ _ e=>⟨_,e⟩) (Zh 2 Zbq ZmW) (ZA.fail _ _)))⟩
abbrev ZOo:=cxU ZaF [Ka] 40 1048576
def ZaN:StS:=⟨[(1,.int .i64),(6,.ptr 0 0),(7,.sl tA),(8,.ptr 1 0),(9,.ptr 4 0)],[(0,.box [.nil,.nil,.nil,.nil,.int .i64,.bool]),(1,.box [.sl (.int .i64),.sl (.int .i64),.int .i64,.sl tC,.int .i64,.sl tEn,.sl tA,.row 2,.row 3,.sl (.int .i64)]),(2,.row tE),(3,.row (.int .i64)),(4,.box [.nil,.nil,.nil,.nil,.int .i64,.bool])],5⟩
def Zbo:StS:=⟨[(1,.int .i64),(6,.ptr 0 0),(7,.sl tA),(8,.ptr 1 0),(9,.ptr 4 0)],[(0,.box [.nil,.nil,.nil,.nil,.int .i64,.bool]),(1,.box [.sl (.int .i64),.sl (.int .i64),.int .i64,.sl tC,.int .i64,.sl tEn,.sl tA,.row 2,.row 3,.sl (.int .i64)]),(2,.row tE),(3,.row (.int .i64)),(4,.box [.nil,.nil,.nil,.nil,.int .i64,.bool])],5⟩
abbrev ZcX:=ZoT
def Zw8:StD ZaN→ZcX:=fun ((a,_,b,_,_,_),((_,_,_,_,c,d,_),(e,f,g,h,i,j,k,_,_,l,_),m,n,(_,_,_,_,o,p,_),_))=>(a,b,c,d,e,f,g,h,i,j,k,l,m,n,o,p)
def ZpA:ZcX→StD ZaN:=fun (a,b,c,d,e,f,g,h,i,j,k,l,m,n,o,p)=>((a,(),b,(),(),()),(((),(),(),(),c,d,()),(e,f,g,h,i,j,k,(),(),l,()),m,n,((),(),(),(),o,p,()),()))
abbrev ZgV:=ZoT
def ZIk:StD Zbo→ZgV:=fun ((a,_,b,_,_,_),((_,_,_,_,c,d,_),(e,f,g,h,i,j,k,_,_,l,_),m,n,(_,_,_,_,o,p,_),_))=>(a,b,c,d,e,f,g,h,i,j,k,l,m,n,o,p)
def ZmU:ZgV→StD Zbo:=fun (a,b,c,d,e,f,g,h,i,j,k,l,m,n,o,p)=>((a,(),b,(),(),()),(((),(),(),(),c,d,()),(e,f,g,h,i,j,k,(),(),l,()),m,n,((),(),(),(),o,p,()),()))
def ZiB (s1:Int) (s7:List A) (b0:Int) (b0_1:Bool) (b1 b1_1:List Int) (b1_2:Int) (b1_3:List C) (b1_4:Int) (b1_5:List En) (b1_6:List A) (b1_7:List Int) (b2:List E) (b3:List Int) (b4:Int) (b4_1:Bool):Option (ZoT⊕ZoT):=
 bif !b4_1 then
 bif decide (b4<100) then
 optC (Zfl (false,b1_6,(↑b1_6.length:Int),0,b0,b0_1,b1,b1_1,b1_2,b1_3,b1_4,b1_5,b1_6,b1_7,b2,b3,IntKind.i64.wrap (b4+1),b4_1)) none fun d22=>
 some
 (Sum.inl
 (s1,s7,d22.2.1,d22.2.2.1,d22.2.2.2.1,d22.2.2.2.2.1,d22.2.2.2.2.2.1,d22.2.2.2.2.2.2.1,d22.2.2.2.2.2.2.2.1,
 d22.2.2.2.2.2.2.2.2.1,d22.2.2.2.2.2.2.2.2.2.1,d22.2.2.2.2.2.2.2.2.2.2.1,d22.2.2.2.2.2.2.2.2.2.2.2.1,
 d22.2.2.2.2.2.2.2.2.2.2.2.2.1,d22.2.2.2.2.2.2.2.2.2.2.2.2.2.1,!d22.1))
 else some (Sum.inr (s1,s7,b0,b0_1,b1,b1_1,b1_2,b1_3,b1_4,b1_5,b1_6,b1_7,b2,b3,b4,b4_1))
 else some (Sum.inr (s1,s7,b0,b0_1,b1,b1_1,b1_2,b1_3,b1_4,b1_5,b1_6,b1_7,b2,b3,b4,b4_1))
def WJ:ZcX→Option (ZcX⊕ZgV):=fun (a,b,c,d,e,f,g,h,i,j,k,l,m,n,o,p)=>ZiB a b c d e f g h i j k l m n o p
theorem ZLT (x:ZcX):rdX ZOo keeps 8 ⟨24,75,keeps 24,0⟩ 0 (bodyX 24 0) 0 ZsQ (sT ZaN (ZpA x)) (sH ZaN (ZpA x)) (rdO (fun T h=>(rdS ZaN T h).map Zw8) (getE 2 Zbo ZIk))=WJ x:=by kernel_rfl
def Zke (x:ZcX):Option ZgV:=iterO WJ Zj x
def ZEf:Nat→Tm→Prog (Nat×Tm):=(varP 0 (fun T h=>(rdS ZaN T h).map Zw8) Zke (altE 2 Zbo ZmU) (fun _ _=>.fail))
def WO:Lpc:=⟨24,0,75,(fun base T=>.norm base (ZsQ 0) T (ZEf base)),by kernel_rfl,by kernel_rfl,(loopU ZaF [Ka] 40 1048576 8 (keep:=ZsQ) (q:=ZEf) (by kernel_rfl) (Zp (s:=ZaN) (un:=ZpA) (by rfl) (fun _=>rfl) (Zi (s:=Zbo) (un:=ZmU) (by rfl) (fun _=>rfl)) (step:=WJ) ZLT (fun _ _ e=>⟨_,e⟩) (Zh 2 Zbo ZmU) (ZA.fail _ _)))⟩
abbrev ZOr:=cxU ZaF [Ka,WO] 40 1048576
def ZaR:StS:=⟨[(0,.ptr 4 0),(1,.int .i64),(2,.int .i64),(12,.row 32153036021279864200481066319758226432430515945481),(13,.int .i64),(14,.int .i64),(39,.sl (.int .i64)),(40,.int .i64),(41,.int .i64)],[(32153036021279864200481066319758226432430515945481,.row tO),(8,.box [.bool,.sl tI,.sl tI,.sl tI,.int .i64,.int .i64,.bool,.sl tI,.sl tI,.sl tI,.int .i64,.int .i64,.sl (.int .i64),.sl tEn,.sl tAc]),(0,.box [.nil,.nil,.nil,.nil,.int .i64,.bool]),(1,.box [.sl (.int .i64),.sl (.int .i64),.int .i64,.sl tC,.int .i64,.sl tEn,.sl tA,.row 2,.row 3,.sl (.int .i64)]),(2,.row tE),(3,.row (.int .i64)),(4,.box [.nil,.row 32153036021279864200481066319758226432430515945482,.row 32153036021279864200481066319758226432430515945483,.row 32153036021279864200481066319758226432430515945484,.int .i64,.bool]),(32153036021279864200481066319758226432430515945482,.row tEn),(32153036021279864200481066319758226432430515945483,.row tAc),(32153036021279864200481066319758226432430515945484,.row tAl)],32153036021279864200481066319758226432430515945485⟩
def Zbs:StS:=⟨[(0,.ptr 4 0),(1,.int .i64),(2,.int .i64),(12,.row 32153036021279864200481066319758226432430515945481),(13,.int .i64),(14,.int .i64)],[(32153036021279864200481066319758226432430515945481,.row tO),(8,.box [.bool,.sl tI,.sl tI,.sl tI,.int .i64,.int .i64,.bool,.sl tI,.sl tI,.sl tI,.int .i64,.int .i64,.sl (.int .i64),.sl tEn,.sl tAc]),(0,.box [.nil,.nil,.nil,.nil,.int .i64,.bool]),(1,.box [.sl (.int .i64),.sl (.int .i64),.int .i64,.sl tC,.int .i64,.sl tEn,.sl tA,.row 2,.row 3,.sl (.int .i64)]),(2,.row tE),(3,.row (.int .i64)),(4,.box [.nil,.row 32153036021279864200481066319758226432430515945482,.row 32153036021279864200481066319758226432430515945483,.row 32153036021279864200481066319758226432430515945484,.int .i64,.bool]),(32153036021279864200481066319758226432430515945482,.row tEn),(32153036021279864200481066319758226432430515945483,.row tAc),(32153036021279864200481066319758226432430515945484,.row tAl)],32153036021279864200481066319758226432430515945485⟩
abbrev ZaH:=ZFf
def Zxc:StD ZaR→ZaH:=fun ((_,a,b,_,c,d,e,f,g,_),(h,(i,j,k,l,m,n,o,p,q,r,s,t,u,w,y,_),(_,_,_,_,z,au,_),(aw,ay,az,bu,bw,bz,cu,_,_,cw,_),cy,cz,(_,_,_,_,du,dw,_),dy,dz,eu,_))=>(a,b,c,d,e,f,g,h,i,j,k,l,m,n,o,p,q,r,s,t,u,w,y,z,au,aw,ay,az,bu,bw,bz,cu,cw,cy,cz,du,dw,dy,dz,eu)
def ZpE:ZaH→StD ZaR:=fun (a,b,c,d,e,f,g,h,i,j,k,l,m,n,o,p,q,r,s,t,u,w,y,z,au,aw,ay,az,bu,bw,bz,cu,cw,cy,cz,du,dw,dy,dz,eu)=>(((),a,b,(),c,d,e,f,g,()),(h,(i,j,k,l,m,n,o,p,q,r,s,t,u,w,y,()),((),(),(),(),z,au,()),(aw,ay,az,bu,bw,bz,cu,(),(),cw,()),cy,cz,((),(),(),(),du,dw,()),dy,dz,eu,()))
abbrev Vj:=ZoS
def ZIo:StD Zbs→Vj:=fun ((_,a,b,_,c,d,_),(e,(f,g,h,i,j,k,l,m,n,o,p,q,r,s,t,_),(_,_,_,_,u,w,_),(y,z,au,aw,ay,az,bu,_,_,bw,_),bz,cu,(_,_,_,_,cw,cy,_),cz,du,dw,_))=>(a,b,c,d,e,f,g,h,i,j,k,l,m,n,o,p,q,r,s,t,u,w,y,z,au,aw,ay,az,bu,bw,bz,cu,cw,cy,cz,du,dw)
def ZmY:Vj→StD Zbs:=fun (a,b,c,d,e,f,g,h,i,j,k,l,m,n,o,p,q,r,s,t,u,w,y,z,au,aw,ay,az,bu,bw,bz,cu,cw,cy,cz,du,dw)=>(((),a,b,(),c,d,()),(e,(f,g,h,i,j,k,l,m,n,o,p,q,r,s,t,()),((),(),(),(),u,w,()),(y,z,au,aw,ay,az,bu,(),(),bw,()),bz,cu,((),(),(),(),cw,cy,()),cz,du,dw,()))
def Zeq (s1 s2 s13 s14:Int) (s39:List Int) (s40 s41:Int) (b32153036021279864200481066319758226432430515945481:List O) (b8:Bool) (b8_1 b8_2 b8_3:List I) (b8_4 b8_5:Int) (b8_6:Bool) (b8_7 b8_8 b8_9:List I) (b8_10 b8_11:Int) (b8_12:List Int) (b8_13:List En) (b8_14:List Ac) (b0:Int) (b0_1:Bool) (b1 b1_1:List Int) (b1_2:Int) (b1_3:List C) (b1_4:Int) (b1_5:List En) (b1_6:List A) (b1_7:List Int) (b2:List E) (b3:List Int) (b4:Int) (b4_1:Bool) (b32153036021279864200481066319758226432430515945482:List En) (b32153036021279864200481066319758226432430515945483:List Ac) (b32153036021279864200481066319758226432430515945484:List Al):Option (ZFf⊕ZoS):=
 bif decide (s41<s40) then
 bif decide (0≤s41) then
 optC s39[s41.toNat]? none fun d46=>
 bif decide ((b32153036021279864200481066319758226432430515945484.length+[(1,s1,s2,d46,0,0)].length+1)*48≤lim) then
 some
 (Sum.inl
 (s1,s2,s13,s14,s39,s40,IntKind.i64.wrap (s41+1),b32153036021279864200481066319758226432430515945481,b8,b8_1,b8_2,b8_3,b8_4,b8_5,b8_6,b8_7,b8_8,b8_9,b8_10,b8_11,
 b8_12,b8_13,b8_14,b0,b0_1,b1,b1_1,b1_2,b1_3,b1_4,b1_5,b1_6,b1_7,b2,b3,b4,b4_1,b32153036021279864200481066319758226432430515945482,
 b32153036021279864200481066319758226432430515945483,b32153036021279864200481066319758226432430515945484++[(1,s1,s2,d46,0,0)]))
 else none
 else none
 else
 some
 (Sum.inr
 (s1,s2,s13,s14,b32153036021279864200481066319758226432430515945481,b8,b8_1,b8_2,b8_3,b8_4,b8_5,b8_6,b8_7,b8_8,b8_9,b8_10,b8_11,b8_12,b8_13,b8_14,b0,b0_1,b1,b1_1,b1_2,
 b1_3,b1_4,b1_5,b1_6,b1_7,b2,b3,b4,b4_1,b32153036021279864200481066319758226432430515945482,b32153036021279864200481066319758226432430515945483,
 b32153036021279864200481066319758226432430515945484))
def Zpu:ZaH→Option (ZaH⊕Vj):=fun (a,b,c,d,e,f,g,h,i,j,k,l,m,n,o,p,q,r,s,t,u,w,y,z,au,aw,ay,az,bu,bw,bz,cu,cw,cy,cz,du,dw,dy,dz,eu)=>Zeq a b c d e f g h i j k l m n o p q r s t u w y z au aw ay az bu bw bz cu cw cy cz du dw dy dz eu
theorem ZLX (x:ZaH):rdX ZOr keeps 8 ⟨52,60,keeps 52,32153036021279864200481066319758226432430515945482⟩ 2 (bodyX 52 2) 32153036021279864200481066319758226432430515945482 Zns (sT ZaR (ZpE x)) (sH ZaR (ZpE x)) (rdO (fun T h=>(rdS ZaR T h).map Zxc) (getE 4 Zbs ZIo))=Zpu x:=by kernel_rfl
def Zkh (x:ZaH):Option Vj:=iterO Zpu Zj x
def ZEj:Nat→Tm→Prog (Nat×Tm):=(varP 32153036021279864200481066319758226432430515945482 (fun T h=>(rdS ZaR T h).map Zxc) Zkh (altE 4 Zbs ZmY) (fun _ _=>.fail))
def Zd5:Lpc:=⟨52,2,60,(slP [] [] [(0,1),(0,2),(0,3)] (Zns 0) (fun base T=>.norm base (Zns 0) T (ZEj base))),by kernel_rfl,by kernel_rfl,(ZU9 (loopU ZaF [Ka,WO] 40 1048576 8 (keep:=Zns) (q:=ZEj) (by kernel_rfl) (Zp (s:=ZaR) (un:=ZpE) (by rfl) (fun _=>rfl) (Zi (s:=Zbs) (un:=ZmY) (by rfl) (fun _=>rfl)) (step:=Zpu) ZLX (fun _ _ e=>⟨_,e⟩) (Zh 4 Zbs ZmY) (ZA.fail _ _))))⟩
abbrev ZOq:=cxU ZaF [Ka,WO,Zd5] 40 1048576
def ZaQ:StS:=⟨[(0,.ptr 4 0),(1,.int .i64),(2,.int .i64),(12,.row 32153036021279864200481066319758226432430515945481),(13,.int .i64),(14,.int .i64)],[(32153036021279864200481066319758226432430515945481,.row tO),(8,.box [.bool,.sl tI,.sl tI,.sl tI,.int .i64,.int .i64,.bool,.sl tI,.sl tI,.sl tI,.int .i64,.int .i64,.sl (.int .i64),.sl tEn,.sl tAc]),(0,.box [.nil,.nil,.nil,.nil,.int .i64,.bool]),(1,.box [.sl (.int .i64),.sl (.int .i64),.int .i64,.sl tC,.int .i64,.sl tEn,.sl tA,.row 2,.row 3,.sl (.int .i64)]),(2,.row tE),(3,.row (.int .i64)),(4,.box [.nil,.row 32153036021279864200481066319758226432430515945482,.row 32153036021279864200481066319758226432430515945483,.row 32153036021279864200481066319758226432430515945484,.int .i64,.bool]),(32153036021279864200481066319758226432430515945482,.row tEn),(32153036021279864200481066319758226432430515945483,.row tAc),(32153036021279864200481066319758226432430515945484,.row tAl)],32153036021279864200481066319758226432430515945485⟩
def Zbr:StS:=⟨[],[(32153036021279864200481066319758226432430515945481,.row tO),(8,.box [.bool,.sl tI,.sl tI,.sl tI,.int .i64,.int .i64,.bool,.sl tI,.sl tI,.sl tI,.int .i64,.int .i64,.sl (.int .i64),.sl tEn,.sl tAc]),(0,.box [.nil,.nil,.nil,.nil,.int .i64,.bool]),(1,.box [.sl (.int .i64),.sl (.int .i64),.int .i64,.sl tC,.int .i64,.sl tEn,.sl tA,.row 2,.row 3,.sl (.int .i64)]),(2,.row tE),(3,.row (.int .i64)),(4,.box [.nil,.row 32153036021279864200481066319758226432430515945482,.row 32153036021279864200481066319758226432430515945483,.row 32153036021279864200481066319758226432430515945484,.int .i64,.bool]),(32153036021279864200481066319758226432430515945482,.row tEn),(32153036021279864200481066319758226432430515945483,.row tAc),(32153036021279864200481066319758226432430515945484,.row tAl)],32153036021279864200481066319758226432430515945485⟩
abbrev ZcZ:=ZoS
def Zxb:StD ZaQ→ZcZ:=fun ((_,a,b,_,c,d,_),(e,(f,g,h,i,j,k,l,m,n,o,p,q,r,s,t,_),(_,_,_,_,u,w,_),(y,z,au,aw,ay,az,bu,_,_,bw,_),bz,cu,(_,_,_,_,cw,cy,_),cz,du,dw,_))=>(a,b,c,d,e,f,g,h,i,j,k,l,m,n,o,p,q,r,s,t,u,w,y,z,au,aw,ay,az,bu,bw,bz,cu,cw,cy,cz,du,dw)
def ZpD:ZcZ→StD ZaQ:=fun (a,b,c,d,e,f,g,h,i,j,k,l,m,n,o,p,q,r,s,t,u,w,y,z,au,aw,ay,az,bu,bw,bz,cu,cw,cy,cz,du,dw)=>(((),a,b,(),c,d,()),(e,(f,g,h,i,j,k,l,m,n,o,p,q,r,s,t,()),((),(),(),(),u,w,()),(y,z,au,aw,ay,az,bu,(),(),bw,()),bz,cu,((),(),(),(),cw,cy,()),cz,du,dw,()))
abbrev ZgX:=ZFg
def ZIn:StD Zbr→ZgX:=fun (_,(a,(b,c,d,e,f,g,h,i,j,k,l,m,n,o,p,_),(_,_,_,_,q,r,_),(s,t,u,w,y,z,au,_,_,aw,_),ay,az,(_,_,_,_,bu,bw,_),bz,cu,cw,_))=>(a,b,c,d,e,f,g,h,i,j,k,l,m,n,o,p,q,r,s,t,u,w,y,z,au,aw,ay,az,bu,bw,bz,cu,cw)
def ZmX:ZgX→StD Zbr:=fun (a,b,c,d,e,f,g,h,i,j,k,l,m,n,o,p,q,r,s,t,u,w,y,z,au,aw,ay,az,bu,bw,bz,cu,cw)=>((),(a,(b,c,d,e,f,g,h,i,j,k,l,m,n,o,p,()),((),(),(),(),q,r,()),(s,t,u,w,y,z,au,(),(),aw,()),ay,az,((),(),(),(),bu,bw,()),bz,cu,cw,()))
def ZxV (s1 s2 s13 s14:Int) (b32153036021279864200481066319758226432430515945481:List O) (b8:Bool) (b8_1 b8_2 b8_3:List I) (b8_4 b8_5:Int) (b8_6:Bool) (b8_7 b8_8 b8_9:List I) (b8_10 b8_11:Int) (b8_12:List Int) (b8_13:List En) (b8_14:List Ac) (b0:Int) (b0_1:Bool) (b1 b1_1:List Int) (b1_2:Int) (b1_3:List C) (b1_4:Int) (b1_5:List En) (b1_6:List A) (b1_7:List Int) (b2:List E) (b3:List Int) (b4:Int) (b4_1:Bool) (b32153036021279864200481066319758226432430515945482:List En) (b32153036021279864200481066319758226432430515945483:List Ac) (b32153036021279864200481066319758226432430515945484:List Al):Option (ZoS⊕ZFg):=
 bif decide (s14<s13) then
 bif decide (0≤s14) then
 optC b32153036021279864200481066319758226432430515945481[s14.toNat]? none fun d43=>
 optC b32153036021279864200481066319758226432430515945481[s14.toNat]? none fun d44=>
 optC (ZvG (b32153036021279864200481066319758226432430515945482,d44.2.2.2.1,())) none fun d45=>
 bif decide ((b32153036021279864200481066319758226432430515945483.length+List.length d44.2.2.2.2+1)*48≤lim) then
 optC
 (Zkh
 (s1,s2,s13,s14,d44.2.2.1,(↑(List.length d44.2.2.1):Int),0,b32153036021279864200481066319758226432430515945481,b8,b8_1,b8_2,b8_3,b8_4,b8_5,b8_6,b8_7,b8_8,
 b8_9,b8_10,b8_11,b8_12,b8_13,b8_14,b0,b0_1,b1,b1_1,b1_2,b1_3,b1_4,b1_5,b1_6,b1_7,b2,b3,b4,b4_1,d45,
 b32153036021279864200481066319758226432430515945483++d44.2.2.2.2,b32153036021279864200481066319758226432430515945484))
 none fun d46=>
 some
 (Sum.inl
 (d46.1,d46.2.1,d46.2.2.1,IntKind.i64.wrap (d46.2.2.2.1+1),d46.2.2.2.2.1,d46.2.2.2.2.2.1,d46.2.2.2.2.2.2.1,
 d46.2.2.2.2.2.2.2.1,d46.2.2.2.2.2.2.2.2.1,d46.2.2.2.2.2.2.2.2.2.1,d46.2.2.2.2.2.2.2.2.2.2.1,
 d46.2.2.2.2.2.2.2.2.2.2.2.1,d46.2.2.2.2.2.2.2.2.2.2.2.2.1,d46.2.2.2.2.2.2.2.2.2.2.2.2.2.1,
 d46.2.2.2.2.2.2.2.2.2.2.2.2.2.2.1,d46.2.2.2.2.2.2.2.2.2.2.2.2.2.2.2.1,
 d46.2.2.2.2.2.2.2.2.2.2.2.2.2.2.2.2.1,d46.2.2.2.2.2.2.2.2.2.2.2.2.2.2.2.2.2.1,
 d46.2.2.2.2.2.2.2.2.2.2.2.2.2.2.2.2.2.2.1,d46.2.2.2.2.2.2.2.2.2.2.2.2.2.2.2.2.2.2.2.1,
 d46.2.2.2.2.2.2.2.2.2.2.2.2.2.2.2.2.2.2.2.2.1,
 d46.2.2.2.2.2.2.2.2.2.2.2.2.2.2.2.2.2.2.2.2.2.1,
 d46.2.2.2.2.2.2.2.2.2.2.2.2.2.2.2.2.2.2.2.2.2.2.1,
 d46.2.2.2.2.2.2.2.2.2.2.2.2.2.2.2.2.2.2.2.2.2.2.2.1,
 d46.2.2.2.2.2.2.2.2.2.2.2.2.2.2.2.2.2.2.2.2.2.2.2.2.1,
 d46.2.2.2.2.2.2.2.2.2.2.2.2.2.2.2.2.2.2.2.2.2.2.2.2.2.1,
 d46.2.2.2.2.2.2.2.2.2.2.2.2.2.2.2.2.2.2.2.2.2.2.2.2.2.2.1,
 d46.2.2.2.2.2.2.2.2.2.2.2.2.2.2.2.2.2.2.2.2.2.2.2.2.2.2.2.1,
 d46.2.2.2.2.2.2.2.2.2.2.2.2.2.2.2.2.2.2.2.2.2.2.2.2.2.2.2.2.1,
 d46.2.2.2.2.2.2.2.2.2.2.2.2.2.2.2.2.2.2.2.2.2.2.2.2.2.2.2.2.2.1,
 d46.2.2.2.2.2.2.2.2.2.2.2.2.2.2.2.2.2.2.2.2.2.2.2.2.2.2.2.2.2.2.1,
 d46.2.2.2.2.2.2.2.2.2.2.2.2.2.2.2.2.2.2.2.2.2.2.2.2.2.2.2.2.2.2.2.1,
 d46.2.2.2.2.2.2.2.2.2.2.2.2.2.2.2.2.2.2.2.2.2.2.2.2.2.2.2.2.2.2.2.2.1,
 d46.2.2.2.2.2.2.2.2.2.2.2.2.2.2.2.2.2.2.2.2.2.2.2.2.2.2.2.2.2.2.2.2.2.1,
 d46.2.2.2.2.2.2.2.2.2.2.2.2.2.2.2.2.2.2.2.2.2.2.2.2.2.2.2.2.2.2.2.2.2.2.1,
 d46.2.2.2.2.2.2.2.2.2.2.2.2.2.2.2.2.2.2.2.2.2.2.2.2.2.2.2.2.2.2.2.2.2.2.2.1,
 d46.2.2.2.2.2.2.2.2.2.2.2.2.2.2.2.2.2.2.2.2.2.2.2.2.2.2.2.2.2.2.2.2.2.2.2.2))
 else none
 else none
 else
 some
 (Sum.inr
 (b32153036021279864200481066319758226432430515945481,b8,b8_1,b8_2,b8_3,b8_4,b8_5,b8_6,b8_7,b8_8,b8_9,b8_10,b8_11,b8_12,b8_13,b8_14,b0,b0_1,b1,b1_1,b1_2,b1_3,b1_4,b1_5,
 b1_6,b1_7,b2,b3,b4,b4_1,b32153036021279864200481066319758226432430515945482,b32153036021279864200481066319758226432430515945483,b32153036021279864200481066319758226432430515945484))
def ZiC:ZcZ→Option (ZcZ⊕ZgX):=fun (a,b,c,d,e,f,g,h,i,j,k,l,m,n,o,p,q,r,s,t,u,w,y,z,au,aw,ay,az,bu,bw,bz,cu,cw,cy,cz,du,dw)=>ZxV a b c d e f g h i j k l m n o p q r s t u w y z au aw ay az bu bw bz cu cw cy cz du dw
theorem ZLW (x:ZcZ):rdX ZOq keeps 8 ⟨52,60,keeps 52,32153036021279864200481066319758226432430515945482⟩ 0 (bodyX 52 0) 32153036021279864200481066319758226432430515945482 Znr (sT ZaQ (ZpD x)) (sH ZaQ (ZpD x)) (rdO (fun T h=>(rdS ZaQ T h).map Zxb) (getE 2 Zbr ZIn))=ZiC x:=by kernel_rfl
def Zkg (x:ZcZ):Option ZgX:=iterO ZiC Zj x
def ZEi:Nat→Tm→Prog (Nat×Tm):=(varP 32153036021279864200481066319758226432430515945482 (fun T h=>(rdS ZaQ T h).map Zxb) Zkg (altE 2 Zbr ZmX) (fun _ _=>.fail))
def Znt:Lpc:=⟨52,0,60,(slP [] [] [(0,1),(0,2),(0,3)] (Znr 0) (fun base T=>.norm base (Znr 0) T (ZEi base))),by kernel_rfl,by kernel_rfl,(ZU9 (loopU ZaF [Ka,WO,Zd5] 40 1048576 8 (keep:=Znr) (q:=ZEi) (by kernel_rfl) (Zp (s:=ZaQ) (un:=ZpD) (by rfl) (fun _=>rfl) (Zi (s:=Zbr) (un:=ZmX) (by rfl) (fun _=>rfl)) (step:=ZiC) ZLW (fun _ _ e=>⟨_,e⟩) (Zh 2 Zbr ZmX) (ZA.fail _ _))))⟩
abbrev ZOp:=cxU ZaF [Ka,WO,Zd5,Znt] 40 1048576
def ZaO:StS:=⟨[(1,.int .i64),(6,.ptr 0 0),(8,.ptr 1 0),(9,.ptr 4 0),(57,.int .i64),(58,.int .i64)],[(0,.box [.nil,.nil,.nil,.nil,.int .i64,.bool]),(1,.box [.sl (.int .i64),.sl (.int .i64),.int .i64,.sl tC,.int .i64,.sl tEn,.sl tA,.row 2,.row 3,.sl (.int .i64)]),(2,.row tE),(3,.row (.int .i64)),(4,.box [.nil,.row 5,.row 6,.row 7,.int .i64,.bool]),(5,.row tEn),(6,.row tAc),(7,.row tAl)],8⟩
def Zbp:StS:=⟨[(6,.ptr 0 0),(8,.ptr 1 0),(9,.ptr 4 0)],[(0,.box [.nil,.nil,.nil,.nil,.int .i64,.bool]),(1,.box [.sl (.int .i64),.sl (.int .i64),.int .i64,.sl tC,.int .i64,.sl tEn,.sl tA,.row 2,.row 3,.sl (.int .i64)]),(2,.row tE),(3,.row (.int .i64)),(4,.box [.nil,.row 5,.row 6,.row 7,.int .i64,.bool]),(5,.row tEn),(6,.row tAc),(7,.row tAl)],8⟩
abbrev ZcY:=ZFh
def Zw9:StD ZaO→ZcY:=fun ((a,_,_,_,b,c,_),((_,_,_,_,d,e,_),(f,g,h,i,j,k,l,_,_,m,_),n,o,(_,_,_,_,p,q,_),r,s,t,_))=>(a,b,c,d,e,f,g,h,i,j,k,l,m,n,o,p,q,r,s,t)
def ZpB:ZcY→StD ZaO:=fun (a,b,c,d,e,f,g,h,i,j,k,l,m,n,o,p,q,r,s,t)=>((a,(),(),(),b,c,()),(((),(),(),(),d,e,()),(f,g,h,i,j,k,l,(),(),m,()),n,o,((),(),(),(),p,q,()),r,s,t,()))
abbrev ZgW:=ZFi
def ZIl:StD Zbp→ZgW:=fun ((_,_,_,_),((_,_,_,_,a,b,_),(c,d,e,f,g,h,i,_,_,j,_),k,l,(_,_,_,_,m,n,_),o,p,q,_))=>(a,b,c,d,e,f,g,h,i,j,k,l,m,n,o,p,q)
def ZmV:ZgW→StD Zbp:=fun (a,b,c,d,e,f,g,h,i,j,k,l,m,n,o,p,q)=>(((),(),(),()),(((),(),(),(),a,b,()),(c,d,e,f,g,h,i,(),(),j,()),k,l,((),(),(),(),m,n,()),o,p,q,()))
def Zps (s1 s57 s58 b0:Int) (b0_1:Bool) (b1 b1_1:List Int) (b1_2:Int) (b1_3:List C) (b1_4:Int) (b1_5:List En) (b1_6:List A) (b1_7:List Int) (b2:List E) (b3:List Int) (b4:Int) (b4_1:Bool) (b5:List En) (b6:List Ac) (b7:List Al):Option (ZFh⊕ZFi):=
 bif decide (s58<s57) then
 bif decide (0≤s58) then
 optC b2[s58.toNat]? none fun d26=>
 optC b2[s58.toNat]? none fun d27=>
 optC (ZgJ ((b1,b1_1,b1_2,b1_3),b1_4,s58,d27,b1_5,())) none fun d28=>
 optC
 (Zkg
 (s1,s58,(↑[d28].length:Int),0,[d28],d28.1.1,d28.1.2.1,d28.1.2.2.1,d28.1.2.2.2.1,d28.1.2.2.2.2.1,d28.1.2.2.2.2.2,
 d28.2.1.1,d28.2.1.2.1,d28.2.1.2.2.1,d28.2.1.2.2.2.1,d28.2.1.2.2.2.2.1,d28.2.1.2.2.2.2.2,d28.2.2.1,
 d28.2.2.2.1,d28.2.2.2.2,b0,b0_1,b1,b1_1,b1_2,b1_3,b1_4,b1_5,b1_6,b1_7,b2,b3,b4,b4_1,b5,b6,b7))
 none fun d29=>
 some
 (Sum.inl
 (s1,s57,IntKind.i64.wrap (s58+1),d29.2.2.2.2.2.2.2.2.2.2.2.2.2.2.2.2.1,
 d29.2.2.2.2.2.2.2.2.2.2.2.2.2.2.2.2.2.1,d29.2.2.2.2.2.2.2.2.2.2.2.2.2.2.2.2.2.2.1,
 d29.2.2.2.2.2.2.2.2.2.2.2.2.2.2.2.2.2.2.2.1,d29.2.2.2.2.2.2.2.2.2.2.2.2.2.2.2.2.2.2.2.2.1,
 d29.2.2.2.2.2.2.2.2.2.2.2.2.2.2.2.2.2.2.2.2.2.1,
 d29.2.2.2.2.2.2.2.2.2.2.2.2.2.2.2.2.2.2.2.2.2.2.1,
 d29.2.2.2.2.2.2.2.2.2.2.2.2.2.2.2.2.2.2.2.2.2.2.2.1,
 d29.2.2.2.2.2.2.2.2.2.2.2.2.2.2.2.2.2.2.2.2.2.2.2.2.1,
 d29.2.2.2.2.2.2.2.2.2.2.2.2.2.2.2.2.2.2.2.2.2.2.2.2.2.1,
 d29.2.2.2.2.2.2.2.2.2.2.2.2.2.2.2.2.2.2.2.2.2.2.2.2.2.2.1,
 d29.2.2.2.2.2.2.2.2.2.2.2.2.2.2.2.2.2.2.2.2.2.2.2.2.2.2.2.1,
 d29.2.2.2.2.2.2.2.2.2.2.2.2.2.2.2.2.2.2.2.2.2.2.2.2.2.2.2.2.1,
 d29.2.2.2.2.2.2.2.2.2.2.2.2.2.2.2.2.2.2.2.2.2.2.2.2.2.2.2.2.2.1,
 d29.2.2.2.2.2.2.2.2.2.2.2.2.2.2.2.2.2.2.2.2.2.2.2.2.2.2.2.2.2.2.1,
 d29.2.2.2.2.2.2.2.2.2.2.2.2.2.2.2.2.2.2.2.2.2.2.2.2.2.2.2.2.2.2.2.1,
 d29.2.2.2.2.2.2.2.2.2.2.2.2.2.2.2.2.2.2.2.2.2.2.2.2.2.2.2.2.2.2.2.2))
 else none
 else some (Sum.inr (b0,b0_1,b1,b1_1,b1_2,b1_3,b1_4,b1_5,b1_6,b1_7,b2,b3,b4,b4_1,b5,b6,b7))
def Zcm:ZcY→Option (ZcY⊕ZgW):=fun (a,b,c,d,e,f,g,h,i,j,k,l,m,n,o,p,q,r,s,t)=>Zps a b c d e f g h i j k l m n o p q r s t
theorem ZLU (x:ZcY):rdX ZOp keeps 8 ⟨24,75,keeps 24,0⟩ 2 (bodyX 24 2) 0 Znq (sT ZaO (ZpB x)) (sH ZaO (ZpB x)) (rdO (fun T h=>(rdS ZaO T h).map Zw9) (getE 4 Zbp ZIl))=Zcm x:=by kernel_rfl
def Zkf (x:ZcY):Option ZgW:=iterO Zcm Zj x
def ZEg:Nat→Tm→Prog (Nat×Tm):=(varP 0 (fun T h=>(rdS ZaO T h).map Zw9) Zkf (altE 4 Zbp ZmV) (fun _ _=>.fail))
def ZBv:Lpc:=⟨24,2,75,(ownP [(4,1,tEn),(4,2,tAc),(4,3,tAl)] [] (Znq 0) (fun base T=>.norm base (Znq 0) T (ZEg base))),by kernel_rfl,by kernel_rfl,(WQ (loopU ZaF [Ka,WO,Zd5,Znt] 40 1048576 8 (keep:=Znq) (q:=ZEg) (by kernel_rfl) (Zp (s:=ZaO) (un:=ZpB) (by rfl) (fun _=>rfl) (Zi (s:=Zbp) (un:=ZmV) (by rfl) (fun _=>rfl)) (step:=Zcm) ZLU (fun _ _ e=>⟨_,e⟩) (Zh 4 Zbp ZmV) (ZA.fail _ _))))⟩
def Zrb (a0:U) (a1:Int) (a2:List En):Option Re:=
 bif decide (0≤a1) then
 optC a0.2.2.2[a1.toNat]? none fun d9=>
 bif decide (0≤(↑(List.length d9.2):Int)∧(↑(List.length d9.2):Int)=(↑(List.length d9.2):Int)∧(↑(List.length d9.2):Int).toNat*(96+1)≤lim) then
 bif decide (0≤(↑(List.length d9.2):Int)∧(↑(List.length d9.2):Int)=(↑(List.length d9.2):Int)∧(↑(List.length d9.2):Int).toNat*(8+1)≤lim) then
 optC (ZBU (a0,())) none fun d10=>
 optC (ZpK (a0,a1,())) none fun d11=>
 optC (List.replicate (↑(List.length d9.2):Int).toNat ((false,[],[],[],0,0):E))[Int.toNat (0:Int)]? none fun d12=>
 optC (List.replicate (↑(List.length d9.2):Int).toNat ((false,[],[],[],0,0):E))[Int.toNat (0:Int)]? none fun d13=>
 optC
 (Zke
 (a1,d9.2,0,false,a0.1,a0.2.1,a0.2.2.1,a0.2.2.2,a1,a2,d9.2,d10,
 (List.replicate (↑(List.length d9.2):Int).toNat ((false,[],[],[],0,0):E)).set (Int.toNat (0:Int)) d11,List.replicate (↑(List.length d9.2):Int).toNat 0,0,false))
 none fun d14=>
 optC
 (Zkf
 (d14.1,(↑d14.2.1.length:Int),0,d14.2.2.1,d14.2.2.2.1,d14.2.2.2.2.1,d14.2.2.2.2.2.1,d14.2.2.2.2.2.2.1,
 d14.2.2.2.2.2.2.2.1,d14.2.2.2.2.2.2.2.2.1,d14.2.2.2.2.2.2.2.2.2.1,d14.2.2.2.2.2.2.2.2.2.2.1,
 d14.2.2.2.2.2.2.2.2.2.2.2.1,d14.2.2.2.2.2.2.2.2.2.2.2.2.1,d14.2.2.2.2.2.2.2.2.2.2.2.2.2.1,
 d14.2.2.2.2.2.2.2.2.2.2.2.2.2.2.1,d14.2.2.2.2.2.2.2.2.2.2.2.2.2.2.2,[],[],[]))
 none fun d15=>
 some
 (d15.2.2.2.2.2.2.2.2.2.2.1,d15.2.2.2.2.2.2.2.2.2.2.2.2.2.2.1,
 d15.2.2.2.2.2.2.2.2.2.2.2.2.2.2.2.1,d15.2.2.2.2.2.2.2.2.2.2.2.2.2.2.2.2,
 d15.2.2.2.2.2.2.2.2.2.2.2.2.1,d15.2.2.2.2.2.2.2.2.2.2.2.2.2.1)
 else none
 else none
 else none
theorem ZVT (a0:U) (a1:Int) (a2:List En):evGX (cxU ZaF [Ka,WO,Zd5,Znt,ZBv] 40 1048576) keeps 8 24 ZMd (.dat tR) ((a0,a1,a2,()):(U×(Int×((List En)×Unit))))=Zrb a0 a1 a2:=by kernel_rfl
def ZaX (x:(U×(Int×((List En)×Unit)))):Option Re:=Zrb x.1 x.2.1 x.2.2.1
def Zhu:List AV→Prog AV:=conP true ZMd (.dat tR) ZaX
theorem Zl7:Zd Tryz.prog 24 Zhu:=Zc (calU ZaF [Ka,WO,Zd5,Znt,ZBv] 40 1048576 8 24) true (by rfl) (by rfl) (fun x r e=>(Zg _ _ _ _ _ _ _).trans ((ZVT x.1 x.2.1 x.2.2.1).trans e)) (.inl rfl)
end
section
open Go.Proofs Go.Proofs.YtbdcblpjemmipaaGreat
def ZA4:List Sh:=[]
def ZFa:List Con:=[⟨24,Zhu,Zl7⟩]
def Zqi:Option Bool:=
 optC (ZaX (([],[],0,[(0,[(12,0,0,0,0,0,0,1,0),(14,0,0,0,0,0,0,1,0)])]),0,[],())) none fun d1=>
 bif d1.2.2.2.2.2 then
 bif d1.2.2.2.2.1==2 then bif (↑(List.length d1.1):Int)==2 then optC d1.1[Int.toNat 1]? none fun d2=>some d2.1 else some false
 else some false
 else some false
theorem ZO2:evGX (cxU ZFa [] 40 1048576) keeps 8 26 ZA4 (.dat .bool) (():Unit)=Zqi:=by kernel_rfl
def ZO (x:Unit):Option Bool:=Zqi
def Zd1:List AV→Prog AV:=conP true ZA4 (.dat .bool) ZO
theorem Zhm:Zd Tryz.prog 26 Zd1:=Zc (calU ZFa [] 40 1048576 8 26) true (by rfl) (by rfl) (fun x r e=>(Zg _ _ _ _ _ _ _).trans ((ZO2 ).trans e)) (.inl rfl)
end
section
open Go.Proofs Go.Proofs.YtbdcblpjemmipaaGreat
abbrev Zdj:Type:=((Unit×(Unit×((List Int)×Unit)))×((List E)×((List Int)×Unit)))
def Zg4 (a0 a1:Int) (a2:E) (b0:List Int) (b1:List E) (b2:List Int):Option (Bool×Zdj):=
 bif !a2.1 then some (false,(PUnit.unit,PUnit.unit,b0,PUnit.unit),b1,b2,PUnit.unit)
 else
 bif decide (0≤a1) then
 optC b1[a1.toNat]? none fun d7=>
 optC b1[a1.toNat]? none fun d8=>
 optC (ZiH (d8,a2,())) none fun d9=>
 bif decide (a1≤a0) then
 bif decide (0≤a1) then
 optC b2[a1.toNat]? none fun d10=>
 optC b2[a1.toNat]? none fun d11=>
 bif decide (d11≥3) then
 bif decide (0≤a1) then
 optC b1[a1.toNat]? none fun d12=>
 optC b1[a1.toNat]? none fun d13=>
 optC (ZwN (d13,d9,b0,())) none fun d14=>
 bif decide (0≤a1) then
 optC b1[a1.toNat]? none fun d15=>
 optC b1[a1.toNat]? none fun d16=>
 optC (Zdn (d14,d16,())) none fun d17=>
 bif d17 then some (false,(PUnit.unit,PUnit.unit,b0,PUnit.unit),b1,b2,PUnit.unit)
 else
 bif decide (0≤a1) then
 optC b1[a1.toNat]? none fun d18=>
 optC b1[a1.toNat]? none fun d19=>
 bif decide (a1≤a0) then
 bif decide (0≤a1) then
 optC b2[a1.toNat]? none fun d20=>
 optC b2[a1.toNat]? none fun d21=>
 bif decide (0≤a1) then
 optC b2[a1.toNat]? none fun d22=>
 optC b2[a1.toNat]? none fun d23=>
 some
 (true,(PUnit.unit,PUnit.unit,b0,PUnit.unit),b1.set a1.toNat d14,b2.set a1.toNat (IntKind.i64.wrap (d21+1)),PUnit.unit)
 else none
 else none
 else some (true,(PUnit.unit,PUnit.unit,b0,PUnit.unit),b1.set a1.toNat d14,b2,PUnit.unit)
 else none
 else none
 else none
 else
 bif decide (0≤a1) then
 optC b1[a1.toNat]? none fun d12=>
 optC b1[a1.toNat]? none fun d13=>
 optC (Zdn (d9,d13,())) none fun d14=>
 bif d14 then some (false,(PUnit.unit,PUnit.unit,b0,PUnit.unit),b1,b2,PUnit.unit)
 else
 bif decide (0≤a1) then
 optC b1[a1.toNat]? none fun d15=>
 optC b1[a1.toNat]? none fun d16=>
 bif decide (a1≤a0) then
 bif decide (0≤a1) then
 optC b2[a1.toNat]? none fun d17=>
 optC b2[a1.toNat]? none fun d18=>
 bif decide (0≤a1) then
 optC b2[a1.toNat]? none fun d19=>
 optC b2[a1.toNat]? none fun d20=>
 some (true,(PUnit.unit,PUnit.unit,b0,PUnit.unit),b1.set a1.toNat d9,b2.set a1.toNat (IntKind.i64.wrap (d18+1)),PUnit.unit)
 else none
 else none
 else some (true,(PUnit.unit,PUnit.unit,b0,PUnit.unit),b1.set a1.toNat d9,b2,PUnit.unit)
 else none
 else none
 else none
 else
 bif decide (0≤a1) then
 optC b1[a1.toNat]? none fun d10=>
 optC b1[a1.toNat]? none fun d11=>
 optC (Zdn (d9,d11,())) none fun d12=>
 bif d12 then some (false,(PUnit.unit,PUnit.unit,b0,PUnit.unit),b1,b2,PUnit.unit)
 else
 bif decide (0≤a1) then
 optC b1[a1.toNat]? none fun d13=>
 optC b1[a1.toNat]? none fun d14=>
 bif decide (a1≤a0) then
 bif decide (0≤a1) then
 optC b2[a1.toNat]? none fun d15=>
 optC b2[a1.toNat]? none fun d16=>
 bif decide (0≤a1) then
 optC b2[a1.toNat]? none fun d17=>
 optC b2[a1.toNat]? none fun d18=>
 some (true,(PUnit.unit,PUnit.unit,b0,PUnit.unit),b1.set a1.toNat d9,b2.set a1.toNat (IntKind.i64.wrap (d16+1)),PUnit.unit)
 else none
 else none
 else some (true,(PUnit.unit,PUnit.unit,b0,PUnit.unit),b1.set a1.toNat d9,b2,PUnit.unit)
 else none
 else none
 else none
def ZaY (x:(Unit×(Int×(Int×(E×Unit))))) (y:Zdj):Option (Bool×Zdj):=Zg4 x.2.1 x.2.2.1 x.2.2.2.1 y.1.2.2.1 y.2.1 y.2.2.1
end
section
open Go.Proofs
def okE (u:U) (t:Int) (x:E):Prop:=x=offE∨(x.1=true∧envOK u t x)
section
variable {u:U} {t:Int}
theorem okE.env {x:E} (h:okE u t x):x.1=true→envOK u t x:=fun k=>by
 rcases h with rfl | h
 ·cases k
 ·exact h.2
theorem okE.sz {x:E} (hu:unitOK u) (h:okE u t x):szE x:=by
 rcases h with rfl | h
 ·exact ⟨by decide,by decide,by decide⟩
 ·exact ZrW hu h.2
def nxtV (st:List Int) (fr to:Int) (old e:E) (n:Int):E:=if to≤fr∧n≥3 then eJoin (widF st) old (eJoin iJoin old e) else eJoin iJoin old e
def comeV (st:List Int) (fr to:Int) (e:E) (es:List E) (ns:List Int):Bool×List E×List Int:=
 match e.1,es[to.toNat]?,ns[to.toNat]? with
 | true,some old,some n=>bif sameE (nxtV st fr to old e n) old then (false,es,ns) else (true,es.set to.toNat (nxtV st fr to old e n),if to≤fr then ns.set to.toNat (IntKind.i64.wrap (n+1)) else ns)
 | _,_,_=>(false,es,ns)
theorem Zl4 {F:I→I→I} {a b:E} (h:b.1=true):(eJoin F a b).1=true:=by
 unfold eJoin
 cases ha:a.1<;>rw [h]<;>simp only [cond_true,cond_false]
 ·exact h
 ·rfl
theorem ZYX {st:List Int} {fr to:Int} {old e:E} {n:Int} (ho:okE u t old) (he1:e.1=true) (he:envOK u t e):(nxtV st fr to old e n).1=true∧envOK u t (nxtV st fr to old e n):=by
 have h1:=Zl4 (F:=iJoin) (a:=old) he1
 have h2:=ZnK ZzO ho.env (fun _=>he) h1
 unfold nxtV
 split
 ·exact ⟨Zl4 h1,ZnK (ZP7 st) ho.env (fun _=>h2) (Zl4 h1)⟩
 ·exact ⟨h1,h2⟩
theorem ZYP (hu:unitOK u) {st:List Int} (hst:st.length<9223372036854775807) {fr to:Int} {e:E} {es:List E} {ns:List Int} (hes:∀ x∈es,okE u t x) (he:e.1=true→envOK u t e) (h0:0≤to) (h1:to.toNat<es.length) (hl:ns.length=es.length) :
  Zg4 fr to e st es ns=some ((comeV st fr to e es ns).1,((),(),st,()),(comeV st fr to e es ns).2.1,(comeV st fr to e es ns).2.2,()):=by
 unfold Zg4 comeV
 cases he1:e.1
 ·rfl
 have he:=he he1
 have e0:decide (0≤to)=true:=decide_eq_true h0
 have g1:es[to.toNat]? = some es[to.toNat]:=List.getElem?_eq_getElem h1
 have g2:ns[to.toNat]? = some (ns[to.toNat]'(by omega)):=List.getElem?_eq_getElem _
 have ho:=hes _ (List.getElem_mem h1)
 generalize es[to.toNat]=old at g1 ho
 generalize ns[to.toNat]'(by omega)=n at g2
 have s0:=ho.sz hu
 have j0:ZnQ old e=some (eJoin iJoin old e):=by rw [ZKs s0,ZTC (fun x y hx hy=>Zc2 hy) ho.env (fun _=>he)]
 have k1:=Zl4 (F:=iJoin) (a:=old) he1
 have k2:=ZnK ZzO ho.env (fun _=>he) k1
 have w0:ZlU old (eJoin iJoin old e) st=some (eJoin (widF st) old (eJoin iJoin old e)):=by
  rw [ZSh hst s0,ZTC (F:=widF st) (G:=rwidF st) (fun x y hx hy=>ZZy hx hy st) ho.env (fun _=>k2)]
 have k3:=Zl4 (F:=widF st) (a:=old) k1
 have k4:=ZnK (ZP7 st) ho.env (fun _=>k2) k3
 have s1:=ZwT (a:=eJoin iJoin old e) (b:=old) fun _=>ZrW hu k2
 have s2:=ZwT (a:=eJoin (widF st) old (eJoin iJoin old e)) (b:=old) fun _=>ZrW hu k4
 simp only [Bool.not_true,cond_false,cond_true,e0,g1,g2,Zb,ZiH,ZwN,Zdn,j0,w0,s1,s2]
 unfold nxtV
 by_cases c1:to≤fr
 ·by_cases c2:n≥3
  ·rw [decide_eq_true c1,decide_eq_true c2,if_pos ⟨c1,c2⟩,if_pos c1]
   cases sameE (eJoin (widF st) old (eJoin iJoin old e)) old<;>rfl
  ·rw [decide_eq_true c1,decide_eq_false c2,if_neg (fun k=>c2 k.2),if_pos c1]
   cases sameE (eJoin iJoin old e) old<;>rfl
 ·rw [decide_eq_false c1,if_neg (fun k=>c1 k.1),if_neg c1]
  cases sameE (eJoin iJoin old e) old<;>rfl
theorem ZWW (hu:unitOK u) {st:List Int} (hst:st.length<9223372036854775807) {fr to:Int} {e:E} {es:List E} {ns:List Int} {b0 b1:List Int} {b2:Int} {b3:List C} {b4:Int} {b5:List En} {b6:List A} (hes:∀ x∈es,okE u t x) (he:e.1=true→envOK u t e) (h0:0≤to) (h1:to.toNat<es.length) (hl:ns.length=es.length) :
  Zir fr to e b0 b1 b2 b3 b4 b5 b6 st es ns=some ((comeV st fr to e es ns).1,(b0,b1,b2,b3,b4,b5,b6,(),(),st,()),(comeV st fr to e es ns).2.1,(comeV st fr to e es ns).2.2,()):=by
 unfold Zir comeV
 cases he1:e.1
 ·rfl
 have he:=he he1
 have e0:decide (0≤to)=true:=decide_eq_true h0
 have g1:es[to.toNat]? = some es[to.toNat]:=List.getElem?_eq_getElem h1
 have g2:ns[to.toNat]? = some (ns[to.toNat]'(by omega)):=List.getElem?_eq_getElem _
 have ho:=hes _ (List.getElem_mem h1)
 generalize es[to.toNat]=old at g1 ho
 generalize ns[to.toNat]'(by omega)=n at g2
 have s0:=ho.sz hu
 have se:=ZrW hu he
 have j0:=ZOL s0 se
 have k1:=Zl4 (F:=iJoin) (a:=old) he1
 have k2:=ZnK ZzO ho.env (fun _=>he) k1
 have w0:=ZVJ (b:=eJoin iJoin old e) hst s0 (ZrW hu k2)
 have k3:=Zl4 (F:=widF st) (a:=old) k1
 have k4:=ZnK (ZP7 st) ho.env (fun _=>k2) k3
 have s1:=ZOM (a:=eJoin iJoin old e) (b:=old) fun _=>ZrW hu k2
 have s2:=ZOM (a:=eJoin (widF st) old (eJoin iJoin old e)) (b:=old) fun _=>ZrW hu k4
 simp only [Bool.not_true,cond_false,cond_true,e0,g1,g2,Zb,Zov,ZBV,ZrF,j0,w0,s1,s2]
 unfold nxtV
 by_cases c1:to≤fr
 ·by_cases c2:n≥3
  ·rw [decide_eq_true c1,decide_eq_true c2,if_pos ⟨c1,c2⟩,if_pos c1]
   cases sameE (eJoin (widF st) old (eJoin iJoin old e)) old<;>rfl
  ·rw [decide_eq_true c1,decide_eq_false c2,if_neg (fun k=>c2 k.2),if_pos c1]
   cases sameE (eJoin iJoin old e) old<;>rfl
 ·rw [decide_eq_false c1,if_neg (fun k=>c1 k.1),if_neg c1]
  cases sameE (eJoin iJoin old e) old<;>rfl
theorem ZLg {st:List Int} {fr to:Int} {e:E} {es:List E} {ns:List Int} (hes:∀ x∈es,okE u t x) (he:e.1=true→envOK u t e) :
  (∀ x∈(comeV st fr to e es ns).2.1,okE u t x)∧(comeV st fr to e es ns).2.1.length=es.length∧(comeV st fr to e es ns).2.2.length=ns.length:=by
 unfold comeV
 split
 ·rename_i old n he1 g1 g2
  cases sameE (nxtV st fr to old e n) old
  ·simp only [cond_false]
   refine ⟨fun x hx=>?_,by simp,by split<;>simp⟩
   rcases List.mem_or_eq_of_mem_set hx with k | rfl
   ·exact hes x k
   ·exact .inr (ZYX (hes old (List.mem_of_getElem? g1)) he1 (he he1))
  ·exact ⟨hes,rfl,rfl⟩
 ·exact ⟨hes,rfl,rfl⟩
end
end
abbrev ZoR:Type:=(Bool×(List Int)×(List Int)×Int×(List C)×Int×(List En)×(List A)×(List Int)×(List E)×(List Int))
def Zch (b0:Int) (b0_1:Bool) (b4:Int) (b4_1:Bool) (s12:List A) (i:Nat) (s3:Bool) (b1 b1_1:List Int) (b1_2:Int) (b1_3:List C) (b1_4:Int) (b1_5:List En) (b1_6:List A) (b1_7:List Int) (b2:List E) (b3:List Int) (d:A):Option (ZoR⊕Vi):=
 optC b2[i]? (none) fun d25=>
  optC b2[i]? (none) fun d26=>
  optC (ZgJ ((b1,b1_1,b1_2,b1_3),b1_4,(i:Int),d26,b1_5,())) (none) fun d27=>
  optC (Zcg ((),(i:Int),d.2.2.2.2.2.2.2.1,d27.1,()) ((b1,b1_1,b1_2,b1_3,b1_4,b1_5,b1_6,(),(),b1_7,()),b2,b3,())) (none) fun d28=>
  optC (Zcg ((),(i:Int),d.2.2.2.2.2.2.2.2,d27.2.1,()) ((d28.2.1.1,d28.2.1.2.1,d28.2.1.2.2.1,d28.2.1.2.2.2.1,d28.2.1.2.2.2.2.1,d28.2.1.2.2.2.2.2.1,d28.2.1.2.2.2.2.2.2.1,(),(),d28.2.1.2.2.2.2.2.2.2.2.2.1,()),d28.2.2.1,d28.2.2.2.1,())) (none) fun d29=>
  bif s3 then
  some (Sum.inl (true,d29.2.1.1,d29.2.1.2.1,d29.2.1.2.2.1,d29.2.1.2.2.2.1,d29.2.1.2.2.2.2.1,d29.2.1.2.2.2.2.2.1,d29.2.1.2.2.2.2.2.2.1,d29.2.1.2.2.2.2.2.2.2.2.2.1,d29.2.2.1,d29.2.2.2.1))
 else bif d28.1 then
  some (Sum.inl (true,d29.2.1.1,d29.2.1.2.1,d29.2.1.2.2.1,d29.2.1.2.2.2.1,d29.2.1.2.2.2.2.1,d29.2.1.2.2.2.2.2.1,d29.2.1.2.2.2.2.2.2.1,d29.2.1.2.2.2.2.2.2.2.2.2.1,d29.2.2.1,d29.2.2.2.1))
 else some (Sum.inl (d29.1,d29.2.1.1,d29.2.1.2.1,d29.2.1.2.2.1,d29.2.1.2.2.2.1,d29.2.1.2.2.2.2.1,d29.2.1.2.2.2.2.2.1,d29.2.1.2.2.2.2.2.2.1,d29.2.1.2.2.2.2.2.2.2.2.2.1,d29.2.2.1,d29.2.2.2.1))
def Zo7 (b0:Int) (b0_1:Bool) (b4:Int) (b4_1:Bool) (s12:List A) (s3:Bool) (b1 b1_1:List Int) (b1_2:Int) (b1_3:List C) (b1_4:Int) (b1_5:List En) (b1_6:List A) (b1_7:List Int) (b2:List E) (b3:List Int):Option Vi:=
 some (s3,b0,b0_1,b1,b1_1,b1_2,b1_3,b1_4,b1_5,b1_6,b1_7,b2,b3,b4,b4_1)
abbrev ZL3 (b0:Int) (b0_1:Bool) (b4:Int) (b4_1:Bool) (s12:List A) (i:Nat) (s:ZoR):ZaG:=(s.1,s12,(s12.length:Int),(i:Int),b0,b0_1,s.2.1,s.2.2.1,s.2.2.2.1,s.2.2.2.2.1,s.2.2.2.2.2.1,s.2.2.2.2.2.2.1,s.2.2.2.2.2.2.2.1,s.2.2.2.2.2.2.2.2.1,s.2.2.2.2.2.2.2.2.2.1,s.2.2.2.2.2.2.2.2.2.2,b4,b4_1)
def Zpm (b0:Int) (b0_1:Bool) (b4:Int) (b4_1:Bool) (s12:List A) (s:ZoR):Option Vi:=Zl (fun i s d=>Zch b0 b0_1 b4 b4_1 s12 i s.1 s.2.1 s.2.2.1 s.2.2.2.1 s.2.2.2.2.1 s.2.2.2.2.2.1 s.2.2.2.2.2.2.1 s.2.2.2.2.2.2.2.1 s.2.2.2.2.2.2.2.2.1 s.2.2.2.2.2.2.2.2.2.1 s.2.2.2.2.2.2.2.2.2.2 d) (fun s=>Zo7 b0 b0_1 b4 b4_1 s12 s.1 s.2.1 s.2.2.1 s.2.2.2.1 s.2.2.2.2.1 s.2.2.2.2.2.1 s.2.2.2.2.2.2.1 s.2.2.2.2.2.2.2.1 s.2.2.2.2.2.2.2.2.1 s.2.2.2.2.2.2.2.2.2.1 s.2.2.2.2.2.2.2.2.2.2) 0 s12 s
theorem ZLN (b0:Int) (b0_1:Bool) (b4:Int) (b4_1:Bool) (s12:List A) (s:ZoR) (hl:s12.length<9223372036854775807):Zfl (s.1,s12,(s12.length:Int),0,b0,b0_1,s.2.1,s.2.2.1,s.2.2.2.1,s.2.2.2.2.1,s.2.2.2.2.2.1,s.2.2.2.2.2.2.1,s.2.2.2.2.2.2.2.1,s.2.2.2.2.2.2.2.2.1,s.2.2.2.2.2.2.2.2.2.1,s.2.2.2.2.2.2.2.2.2.2,b4,b4_1)=Zpm b0 b0_1 b4 b4_1 s12 s:=by
 unfold Zfl Zpm
 refine Zk s12 (ZL3 b0 b0_1 b4 b4_1 s12) _ _ ?_ ?_ s (by unfold Zj;omega)
 ·intro i s d hi hd
  have e1:decide ((i:Int)<(s12.length:Int))=true:=decide_eq_true (by omega)
  have e2:decide (0≤(i:Int))=true:=decide_eq_true (by omega)
  have e3:Int.toNat (i:Int)=i:=Int.toNat_natCast i
  have e4:=Zm hi (Nat.le_of_lt hl)
  show Zep (s.1) (s12) ((s12.length:Int)) ((i:Int)) (b0) (b0_1) (s.2.1) (s.2.2.1) (s.2.2.2.1) (s.2.2.2.2.1) (s.2.2.2.2.2.1) (s.2.2.2.2.2.2.1) (s.2.2.2.2.2.2.2.1) (s.2.2.2.2.2.2.2.2.1) (s.2.2.2.2.2.2.2.2.2.1) (s.2.2.2.2.2.2.2.2.2.2) (b4) (b4_1)=upd _ (Zch b0 b0_1 b4 b4_1 s12 i s.1 s.2.1 s.2.2.1 s.2.2.2.1 s.2.2.2.2.1 s.2.2.2.2.2.1 s.2.2.2.2.2.2.1 s.2.2.2.2.2.2.2.1 s.2.2.2.2.2.2.2.2.1 s.2.2.2.2.2.2.2.2.2.1 s.2.2.2.2.2.2.2.2.2.2 d)
  unfold Zep Zch
  simp only [e1,e2,e3,e4,hd,cond_true,cond_false,Zb,Zv,Zy,Zw,ZB,ZC,Zx]
 ·intro s
  have e1:decide ((s12.length:Int)<(s12.length:Int))=false:=decide_eq_false (by omega)
  show Zep (s.1) (s12) ((s12.length:Int)) ((s12.length:Int)) (b0) (b0_1) (s.2.1) (s.2.2.1) (s.2.2.2.1) (s.2.2.2.2.1) (s.2.2.2.2.2.1) (s.2.2.2.2.2.2.1) (s.2.2.2.2.2.2.2.1) (s.2.2.2.2.2.2.2.2.1) (s.2.2.2.2.2.2.2.2.2.1) (s.2.2.2.2.2.2.2.2.2.2) (b4) (b4_1)=_
  unfold Zep Zo7
  rw [e1]
  rfl
def Zim (s1 s2 s13 s14:Int) (b32153036021279864200481066319758226432430515945481:List O) (b8:Bool) (b8_1 b8_2 b8_3:List I) (b8_4 b8_5:Int) (b8_6:Bool) (b8_7 b8_8 b8_9:List I) (b8_10 b8_11:Int) (b8_12:List Int) (b8_13:List En) (b8_14:List Ac) (b0:Int) (b0_1:Bool) (b1 b1_1:List Int) (b1_2:Int) (b1_3:List C) (b1_4:Int) (b1_5:List En) (b1_6:List A) (b1_7:List Int) (b2:List E) (b3:List Int) (b4:Int) (b4_1:Bool) (b32153036021279864200481066319758226432430515945482:List En) (b32153036021279864200481066319758226432430515945483:List Ac) (s39:List Int) (i:Nat) (b32153036021279864200481066319758226432430515945484:List Al) (d:Int):Option ((List Al)⊕Vj):=
 bif decide ((b32153036021279864200481066319758226432430515945484.length+[(1,s1,s2,d,0,0)].length+1)*48≤lim) then
  some (Sum.inl (b32153036021279864200481066319758226432430515945484++[(1,s1,s2,d,0,0)]))
 else none
def Zo8 (s1 s2 s13 s14:Int) (b32153036021279864200481066319758226432430515945481:List O) (b8:Bool) (b8_1 b8_2 b8_3:List I) (b8_4 b8_5:Int) (b8_6:Bool) (b8_7 b8_8 b8_9:List I) (b8_10 b8_11:Int) (b8_12:List Int) (b8_13:List En) (b8_14:List Ac) (b0:Int) (b0_1:Bool) (b1 b1_1:List Int) (b1_2:Int) (b1_3:List C) (b1_4:Int) (b1_5:List En) (b1_6:List A) (b1_7:List Int) (b2:List E) (b3:List Int) (b4:Int) (b4_1:Bool) (b32153036021279864200481066319758226432430515945482:List En) (b32153036021279864200481066319758226432430515945483:List Ac) (s39:List Int) (b32153036021279864200481066319758226432430515945484:List Al):Option Vj:=
 some (s1,s2,s13,s14,b32153036021279864200481066319758226432430515945481,b8,b8_1,b8_2,b8_3,b8_4,b8_5,b8_6,b8_7,b8_8,b8_9,b8_10,b8_11,b8_12,b8_13,b8_14,b0,b0_1,b1,b1_1,b1_2,b1_3,b1_4,b1_5,b1_6,b1_7,b2,b3,b4,b4_1,b32153036021279864200481066319758226432430515945482,b32153036021279864200481066319758226432430515945483,b32153036021279864200481066319758226432430515945484)
abbrev ZL4 (s1 s2 s13 s14:Int) (b32153036021279864200481066319758226432430515945481:List O) (b8:Bool) (b8_1 b8_2 b8_3:List I) (b8_4 b8_5:Int) (b8_6:Bool) (b8_7 b8_8 b8_9:List I) (b8_10 b8_11:Int) (b8_12:List Int) (b8_13:List En) (b8_14:List Ac) (b0:Int) (b0_1:Bool) (b1 b1_1:List Int) (b1_2:Int) (b1_3:List C) (b1_4:Int) (b1_5:List En) (b1_6:List A) (b1_7:List Int) (b2:List E) (b3:List Int) (b4:Int) (b4_1:Bool) (b32153036021279864200481066319758226432430515945482:List En) (b32153036021279864200481066319758226432430515945483:List Ac) (s39:List Int) (i:Nat) (s:List Al):ZaH:=(s1,s2,s13,s14,s39,(s39.length:Int),(i:Int),b32153036021279864200481066319758226432430515945481,b8,b8_1,b8_2,b8_3,b8_4,b8_5,b8_6,b8_7,b8_8,b8_9,b8_10,b8_11,b8_12,b8_13,b8_14,b0,b0_1,b1,b1_1,b1_2,b1_3,b1_4,b1_5,b1_6,b1_7,b2,b3,b4,b4_1,b32153036021279864200481066319758226432430515945482,b32153036021279864200481066319758226432430515945483,s)
def Zpn (s1 s2 s13 s14:Int) (b32153036021279864200481066319758226432430515945481:List O) (b8:Bool) (b8_1 b8_2 b8_3:List I) (b8_4 b8_5:Int) (b8_6:Bool) (b8_7 b8_8 b8_9:List I) (b8_10 b8_11:Int) (b8_12:List Int) (b8_13:List En) (b8_14:List Ac) (b0:Int) (b0_1:Bool) (b1 b1_1:List Int) (b1_2:Int) (b1_3:List C) (b1_4:Int) (b1_5:List En) (b1_6:List A) (b1_7:List Int) (b2:List E) (b3:List Int) (b4:Int) (b4_1:Bool) (b32153036021279864200481066319758226432430515945482:List En) (b32153036021279864200481066319758226432430515945483:List Ac) (s39:List Int) (s:List Al):Option Vj:=Zl (fun i s d=>Zim s1 s2 s13 s14 b32153036021279864200481066319758226432430515945481 b8 b8_1 b8_2 b8_3 b8_4 b8_5 b8_6 b8_7 b8_8 b8_9 b8_10 b8_11 b8_12 b8_13 b8_14 b0 b0_1 b1 b1_1 b1_2 b1_3 b1_4 b1_5 b1_6 b1_7 b2 b3 b4 b4_1 b32153036021279864200481066319758226432430515945482 b32153036021279864200481066319758226432430515945483 s39 i s d) (fun s=>Zo8 s1 s2 s13 s14 b32153036021279864200481066319758226432430515945481 b8 b8_1 b8_2 b8_3 b8_4 b8_5 b8_6 b8_7 b8_8 b8_9 b8_10 b8_11 b8_12 b8_13 b8_14 b0 b0_1 b1 b1_1 b1_2 b1_3 b1_4 b1_5 b1_6 b1_7 b2 b3 b4 b4_1 b32153036021279864200481066319758226432430515945482 b32153036021279864200481066319758226432430515945483 s39 s) 0 s39 s
theorem ZLO (s1 s2 s13 s14:Int) (b32153036021279864200481066319758226432430515945481:List O) (b8:Bool) (b8_1 b8_2 b8_3:List I) (b8_4 b8_5:Int) (b8_6:Bool) (b8_7 b8_8 b8_9:List I) (b8_10 b8_11:Int) (b8_12:List Int) (b8_13:List En) (b8_14:List Ac) (b0:Int) (b0_1:Bool) (b1 b1_1:List Int) (b1_2:Int) (b1_3:List C) (b1_4:Int) (b1_5:List En) (b1_6:List A) (b1_7:List Int) (b2:List E) (b3:List Int) (b4:Int) (b4_1:Bool) (b32153036021279864200481066319758226432430515945482:List En) (b32153036021279864200481066319758226432430515945483:List Ac) (s39:List Int) (s:List Al) (hl:s39.length<9223372036854775807):Zkh (s1,s2,s13,s14,s39,(s39.length:Int),0,b32153036021279864200481066319758226432430515945481,b8,b8_1,b8_2,b8_3,b8_4,b8_5,b8_6,b8_7,b8_8,b8_9,b8_10,b8_11,b8_12,b8_13,b8_14,b0,b0_1,b1,b1_1,b1_2,b1_3,b1_4,b1_5,b1_6,b1_7,b2,b3,b4,b4_1,b32153036021279864200481066319758226432430515945482,b32153036021279864200481066319758226432430515945483,s)=Zpn s1 s2 s13 s14 b32153036021279864200481066319758226432430515945481 b8 b8_1 b8_2 b8_3 b8_4 b8_5 b8_6 b8_7 b8_8 b8_9 b8_10 b8_11 b8_12 b8_13 b8_14 b0 b0_1 b1 b1_1 b1_2 b1_3 b1_4 b1_5 b1_6 b1_7 b2 b3 b4 b4_1 b32153036021279864200481066319758226432430515945482 b32153036021279864200481066319758226432430515945483 s39 s:=by
 unfold Zkh Zpn
 refine Zk s39 (ZL4 s1 s2 s13 s14 b32153036021279864200481066319758226432430515945481 b8 b8_1 b8_2 b8_3 b8_4 b8_5 b8_6 b8_7 b8_8 b8_9 b8_10 b8_11 b8_12 b8_13 b8_14 b0 b0_1 b1 b1_1 b1_2 b1_3 b1_4 b1_5 b1_6 b1_7 b2 b3 b4 b4_1 b32153036021279864200481066319758226432430515945482 b32153036021279864200481066319758226432430515945483 s39) _ _ ?_ ?_ s (by unfold Zj;omega)
 ·intro i s d hi hd
  have e1:decide ((i:Int)<(s39.length:Int))=true:=decide_eq_true (by omega)
  have e2:decide (0≤(i:Int))=true:=decide_eq_true (by omega)
  have e3:Int.toNat (i:Int)=i:=Int.toNat_natCast i
  have e4:=Zm hi (Nat.le_of_lt hl)
  show Zeq (s1) (s2) (s13) (s14) (s39) ((s39.length:Int)) ((i:Int)) (b32153036021279864200481066319758226432430515945481) (b8) (b8_1) (b8_2) (b8_3) (b8_4) (b8_5) (b8_6) (b8_7) (b8_8) (b8_9) (b8_10) (b8_11) (b8_12) (b8_13) (b8_14) (b0) (b0_1) (b1) (b1_1) (b1_2) (b1_3) (b1_4) (b1_5) (b1_6) (b1_7) (b2) (b3) (b4) (b4_1) (b32153036021279864200481066319758226432430515945482) (b32153036021279864200481066319758226432430515945483) (s)=upd _ (Zim s1 s2 s13 s14 b32153036021279864200481066319758226432430515945481 b8 b8_1 b8_2 b8_3 b8_4 b8_5 b8_6 b8_7 b8_8 b8_9 b8_10 b8_11 b8_12 b8_13 b8_14 b0 b0_1 b1 b1_1 b1_2 b1_3 b1_4 b1_5 b1_6 b1_7 b2 b3 b4 b4_1 b32153036021279864200481066319758226432430515945482 b32153036021279864200481066319758226432430515945483 s39 i s d)
  unfold Zeq Zim
  simp only [e1,e2,e3,e4,hd,cond_true,cond_false,Zb,Zv,Zy,Zw,ZB,ZC,Zx]
 ·intro s
  have e1:decide ((s39.length:Int)<(s39.length:Int))=false:=decide_eq_false (by omega)
  show Zeq (s1) (s2) (s13) (s14) (s39) ((s39.length:Int)) ((s39.length:Int)) (b32153036021279864200481066319758226432430515945481) (b8) (b8_1) (b8_2) (b8_3) (b8_4) (b8_5) (b8_6) (b8_7) (b8_8) (b8_9) (b8_10) (b8_11) (b8_12) (b8_13) (b8_14) (b0) (b0_1) (b1) (b1_1) (b1_2) (b1_3) (b1_4) (b1_5) (b1_6) (b1_7) (b2) (b3) (b4) (b4_1) (b32153036021279864200481066319758226432430515945482) (b32153036021279864200481066319758226432430515945483) (s)=_
  unfold Zeq Zo8
  rw [e1]
  rfl
section
open Go.Proofs Go.Proofs.YtbdcblpjemmipaaGreat
abbrev ZAo:Type:=(Int×(List En)×(List A)×Int×Int×(List Int)×(List Int)×Int×(List C)×Int×Bool×(List Int)×(List E)×(List Int)×Int×Bool×(List En)×(List Ac)×(List Al)×Bool×(List I)×(List I)×(List I)×Int×Int×Bool×(List I)×(List I)×(List I)×Int×Int×(List Int)×(List En)×(List Ac))
abbrev Zle:Type:=(Int×(List En)×(List A)×Int×(List Int)×(List Int)×Int×(List C)×Int×Bool×(List Int)×(List E)×(List Int)×Int×Bool×(List En)×(List Ac)×(List Al))
abbrev ZAp:Type:=(Int×(List En)×(List A)×Bool×Int×(List Int)×(List Int)×Int×(List C)×Int×Bool×(List Int)×(List E)×(List Int)×Int×Bool)
abbrev ZAq:Type:=(Int×(List En)×(List A)×Bool×(List Int)×(List Int)×Int×(List C)×Int×Bool×(List Int)×(List E)×(List Int)×Int×Bool)
abbrev Zlf:Type:=(Int×(List En)×(List A)×(List Int)×(List Int)×Int×(List C)×Int×Bool×(List Int)×(List E)×(List Int)×Int×Bool)
abbrev ZAr:Type:=(Int×Bool×(List Int)×(List E)×(List Int)×Int×Bool×(List En)×(List Ac)×(List Al))
abbrev Vo:=ZAp
abbrev KI:=ZAq
def ZcQ (s1:Int) (s2:List En) (s7:List A) (s10:Bool) (s11:Int) (b0 b0_1:List Int) (b0_2:Int) (b0_3:List C) (b1:Int) (b1_1:Bool) (b2:List Int) (b3:List E) (b4:List Int) (b5:Int) (b5_1:Bool):Option (ZAp⊕ZAq):=
 bif decide (s11<(↑s7.length:Int)) then
 bif decide (0≤s11) then
 optC b3[s11.toNat]? none fun d21=>
 optC b3[s11.toNat]? none fun d22=>
 optC (Zew ((b0,b0_1,b0_2,b0_3),s1,s11,d22,s2,())) none fun d23=>
 bif decide (0≤s11) then
 optC s7[s11.toNat]? none fun d24=>
 optC (ZaY ((),s11,d24.2.2.2.2.2.2.2.1,d23.1,()) (((),(),b2,()),b3,b4,())) none fun d25=>
 bif decide (0≤s11) then
 optC s7[s11.toNat]? none fun d26=>
 optC
 (ZaY ((),s11,d26.2.2.2.2.2.2.2.2,d23.2.1,()) (((),(),d25.2.1.2.2.1,()),d25.2.2.1,d25.2.2.2.1,()))
 none fun d27=>
 bif s10 then
 some
 (Sum.inl (s1,s2,s7,true,IntKind.i64.wrap (s11+1),b0,b0_1,b0_2,b0_3,b1,b1_1,d27.2.1.2.2.1,d27.2.2.1,d27.2.2.2.1,b5,b5_1))
 else
 bif d25.1 then
 some
 (Sum.inl (s1,s2,s7,true,IntKind.i64.wrap (s11+1),b0,b0_1,b0_2,b0_3,b1,b1_1,d27.2.1.2.2.1,d27.2.2.1,d27.2.2.2.1,b5,b5_1))
 else
 some
 (Sum.inl (s1,s2,s7,d27.1,IntKind.i64.wrap (s11+1),b0,b0_1,b0_2,b0_3,b1,b1_1,d27.2.1.2.2.1,d27.2.2.1,d27.2.2.2.1,b5,b5_1))
 else none
 else none
 else none
 else some (Sum.inr (s1,s2,s7,s10,b0,b0_1,b0_2,b0_3,b1,b1_1,b2,b3,b4,b5,b5_1))
def ZmK:Vo→Option (Vo⊕KI):=fun (a,b,c,d,e,f,g,h,i,j,k,l,m,n,o,p)=>ZcQ a b c d e f g h i j k l m n o p
def Zds (x:Vo):Option KI:=iterO ZmK Zj x
abbrev Za4:=Zlf
abbrev ZeG:=Zlf
def Zf4 (s1:Int) (s2:List En) (s7:List A) (b0 b0_1:List Int) (b0_2:Int) (b0_3:List C) (b1:Int) (b1_1:Bool) (b2:List Int) (b3:List E) (b4:List Int) (b5:Int) (b5_1:Bool):Option (Zlf⊕Zlf):=
 bif !b5_1 then
 bif decide (b5<100) then
 optC (Zds (s1,s2,s7,false,0,b0,b0_1,b0_2,b0_3,b1,b1_1,b2,b3,b4,b5,b5_1)) none fun d19=>
 some
 (Sum.inl
 (d19.1,d19.2.1,d19.2.2.1,d19.2.2.2.2.1,d19.2.2.2.2.2.1,d19.2.2.2.2.2.2.1,d19.2.2.2.2.2.2.2.1,
 d19.2.2.2.2.2.2.2.2.1,d19.2.2.2.2.2.2.2.2.2.1,d19.2.2.2.2.2.2.2.2.2.2.1,d19.2.2.2.2.2.2.2.2.2.2.2.1,
 d19.2.2.2.2.2.2.2.2.2.2.2.2.1,IntKind.i64.wrap (d19.2.2.2.2.2.2.2.2.2.2.2.2.2.1+1),!d19.2.2.2.1))
 else some (Sum.inr (s1,s2,s7,b0,b0_1,b0_2,b0_3,b1,b1_1,b2,b3,b4,b5,b5_1))
 else some (Sum.inr (s1,s2,s7,b0,b0_1,b0_2,b0_3,b1,b1_1,b2,b3,b4,b5,b5_1))
def Ho:Za4→Option (Za4⊕ZeG):=fun (a,b,c,d,e,f,g,h,i,j,k,l,m,n)=>Zf4 a b c d e f g h i j k l m n
def ZgR (x:Za4):Option ZeG:=iterO Ho Zj x
abbrev Vp:=ZAo
abbrev KJ:=Zle
def ZcR (s1:Int) (s2:List En) (s7:List A) (s15 s17:Int) (b0 b0_1:List Int) (b0_2:Int) (b0_3:List C) (b1:Int) (b1_1:Bool) (b2:List Int) (b3:List E) (b4:List Int) (b5:Int) (b5_1:Bool) (b6:List En) (b7:List Ac) (b8:List Al) (b9:Bool) (b9_1 b9_2 b9_3:List I) (b9_4 b9_5:Int) (b9_6:Bool) (b9_7 b9_8 b9_9:List I) (b9_10 b9_11:Int) (b9_12:List Int) (b9_13:List En) (b9_14:List Ac):Option (ZAo⊕Zle):=
 bif decide (s17<(↑b9_12.length:Int)) then
 bif decide (0≤s17) then
 optC b9_12[s17.toNat]? none fun d39=>
 bif decide ((b8.length+[(1,s1,s15,d39,0,0)].length+1)*48≤lim) then
 some
 (Sum.inl
 (s1,s2,s7,s15,IntKind.i64.wrap (s17+1),b0,b0_1,b0_2,b0_3,b1,b1_1,b2,b3,b4,b5,b5_1,b6,b7,b8++[(1,s1,s15,d39,0,0)],b9,b9_1,b9_2,b9_3,b9_4,b9_5,b9_6,
 b9_7,b9_8,b9_9,b9_10,b9_11,b9_12,b9_13,b9_14))
 else none
 else none
 else some (Sum.inr (s1,s2,s7,s15,b0,b0_1,b0_2,b0_3,b1,b1_1,b2,b3,b4,b5,b5_1,b6,b7,b8))
def ZmL:Vp→Option (Vp⊕KJ):=fun (a,b,c,d,e,f,g,h,i,j,k,l,m,n,o,p,q,r,s,t,u,w,y,z,au,aw,ay,az,bu,bw,bz,cu,cw,cy)=>ZcR a b c d e f g h i j k l m n o p q r s t u w y z au aw ay az bu bw bz cu cw cy
def Zdt (x:Vp):Option KJ:=iterO ZmL Zj x
abbrev Za5:=Zle
abbrev ZeH:=ZAr
def ZmC (s1:Int) (s2:List En) (s7:List A) (s15:Int) (b0 b0_1:List Int) (b0_2:Int) (b0_3:List C) (b1:Int) (b1_1:Bool) (b2:List Int) (b3:List E) (b4:List Int) (b5:Int) (b5_1:Bool) (b6:List En) (b7:List Ac) (b8:List Al):Option (Zle⊕ZAr):=
 bif decide (s15<(↑s7.length:Int)) then
 bif decide (0≤s15) then
 optC b3[s15.toNat]? none fun d23=>
 optC b3[s15.toNat]? none fun d24=>
 optC (Zew ((b0,b0_1,b0_2,b0_3),s1,s15,d24,s2,())) none fun d25=>
 optC (Zhs (b6,d25.2.2.2.1,())) none fun d26=>
 bif decide ((b7.length+List.length d25.2.2.2.2+1)*48≤lim) then
 optC
 (Zdt
 (s1,s2,s7,s15,0,b0,b0_1,b0_2,b0_3,b1,b1_1,b2,b3,b4,b5,b5_1,d26,b7++d25.2.2.2.2,b8,d25.1.1,d25.1.2.1,d25.1.2.2.1,
 d25.1.2.2.2.1,d25.1.2.2.2.2.1,d25.1.2.2.2.2.2,d25.2.1.1,d25.2.1.2.1,d25.2.1.2.2.1,d25.2.1.2.2.2.1,
 d25.2.1.2.2.2.2.1,d25.2.1.2.2.2.2.2,d25.2.2))
 none fun d27=>
 some
 (Sum.inl
 (d27.1,d27.2.1,d27.2.2.1,IntKind.i64.wrap (d27.2.2.2.1+1),d27.2.2.2.2.1,d27.2.2.2.2.2.1,d27.2.2.2.2.2.2.1,
 d27.2.2.2.2.2.2.2.1,d27.2.2.2.2.2.2.2.2.1,d27.2.2.2.2.2.2.2.2.2.1,d27.2.2.2.2.2.2.2.2.2.2.1,
 d27.2.2.2.2.2.2.2.2.2.2.2.1,d27.2.2.2.2.2.2.2.2.2.2.2.2.1,d27.2.2.2.2.2.2.2.2.2.2.2.2.2.1,
 d27.2.2.2.2.2.2.2.2.2.2.2.2.2.2.1,d27.2.2.2.2.2.2.2.2.2.2.2.2.2.2.2.1,
 d27.2.2.2.2.2.2.2.2.2.2.2.2.2.2.2.2.1,d27.2.2.2.2.2.2.2.2.2.2.2.2.2.2.2.2.2))
 else none
 else none
 else some (Sum.inr (b1,b1_1,b2,b3,b4,b5,b5_1,b6,b7,b8))
def Zad:Za5→Option (Za5⊕ZeH):=fun (a,b,c,d,e,f,g,h,i,j,k,l,m,n,o,p,q,r)=>ZmC a b c d e f g h i j k l m n o p q r
def ZgS (x:Za5):Option ZeH:=iterO Zad Zj x
def ZpZ (a0:U) (a1:Int) (a2:List En):Option Re:=
 bif decide (0≤a1) then
 optC a0.2.2.2[a1.toNat]? none fun d8=>
 bif decide (0≤(↑(List.length d8.2):Int)∧(↑(List.length d8.2):Int)=(↑(List.length d8.2):Int)∧(↑(List.length d8.2):Int).toNat*(96+1)≤lim) then
 bif decide (0≤(↑(List.length d8.2):Int)∧(↑(List.length d8.2):Int)=(↑(List.length d8.2):Int)∧(↑(List.length d8.2):Int).toNat*(8+1)≤lim) then
 optC (Zy2 (a0,())) none fun d9=>
 optC (ZlN (a0,a1,())) none fun d10=>
 optC (List.replicate (↑(List.length d8.2):Int).toNat ((false,[],[],[],0,0):E))[Int.toNat (0:Int)]? none fun d11=>
 optC (List.replicate (↑(List.length d8.2):Int).toNat ((false,[],[],[],0,0):E))[Int.toNat (0:Int)]? none fun d12=>
 optC
 (ZgR
 (a1,a2,d8.2,a0.1,a0.2.1,a0.2.2.1,a0.2.2.2,0,false,d9,
 (List.replicate (↑(List.length d8.2):Int).toNat ((false,[],[],[],0,0):E)).set (Int.toNat (0:Int)) d10,List.replicate (↑(List.length d8.2):Int).toNat 0,0,false))
 none fun d13=>
 optC
 (ZgS
 (d13.1,d13.2.1,d13.2.2.1,0,d13.2.2.2.1,d13.2.2.2.2.1,d13.2.2.2.2.2.1,d13.2.2.2.2.2.2.1,
 d13.2.2.2.2.2.2.2.1,d13.2.2.2.2.2.2.2.2.1,d13.2.2.2.2.2.2.2.2.2.1,d13.2.2.2.2.2.2.2.2.2.2.1,
 d13.2.2.2.2.2.2.2.2.2.2.2.1,d13.2.2.2.2.2.2.2.2.2.2.2.2.1,d13.2.2.2.2.2.2.2.2.2.2.2.2.2,[],[],
 []))
 none fun d14=>
 some
 (d14.2.2.2.1,d14.2.2.2.2.2.2.2.1,d14.2.2.2.2.2.2.2.2.1,d14.2.2.2.2.2.2.2.2.2,d14.2.2.2.2.2.1,
 d14.2.2.2.2.2.2.1)
 else none
 else none
 else none
end
def W7 (s1:Int) (s2:List En) (b0 b0_1:List Int) (b0_2:Int) (b0_3:List C) (b1:Int) (b1_1:Bool) (b5:Int) (b5_1:Bool) (s7:List A) (i:Nat) (s10:Bool) (b2:List Int) (b3:List E) (b4:List Int) (d:A):Option ((Bool×(List Int)×(List E)×(List Int))⊕KI):=
 optC b3[i]? (none) fun d21=>
  optC b3[i]? (none) fun d22=>
  optC (Zew ((b0,b0_1,b0_2,b0_3),s1,(i:Int),d22,s2,())) (none) fun d23=>
  optC (ZaY ((),(i:Int),d.2.2.2.2.2.2.2.1,d23.1,()) (((),(),b2,()),b3,b4,())) (none) fun d25=>
  optC (ZaY ((),(i:Int),d.2.2.2.2.2.2.2.2,d23.2.1,()) (((),(),d25.2.1.2.2.1,()),d25.2.2.1,d25.2.2.2.1,())) (none) fun d27=>
  bif s10 then
  some (Sum.inl (true,d27.2.1.2.2.1,d27.2.2.1,d27.2.2.2.1))
 else bif d25.1 then
  some (Sum.inl (true,d27.2.1.2.2.1,d27.2.2.1,d27.2.2.2.1))
 else some (Sum.inl (d27.1,d27.2.1.2.2.1,d27.2.2.1,d27.2.2.2.1))
def Zmf (s1:Int) (s2:List En) (b0 b0_1:List Int) (b0_2:Int) (b0_3:List C) (b1:Int) (b1_1:Bool) (b5:Int) (b5_1:Bool) (s7:List A) (s10:Bool) (b2:List Int) (b3:List E) (b4:List Int):Option KI:=
 some (s1,s2,s7,s10,b0,b0_1,b0_2,b0_3,b1,b1_1,b2,b3,b4,b5,b5_1)
abbrev ZJc (s1:Int) (s2:List En) (b0 b0_1:List Int) (b0_2:Int) (b0_3:List C) (b1:Int) (b1_1:Bool) (b5:Int) (b5_1:Bool) (s7:List A) (i:Nat) (s:Bool×(List Int)×(List E)×(List Int)):Vo:=(s1,s2,s7,s.1,(i:Int),b0,b0_1,b0_2,b0_3,b1,b1_1,s.2.1,s.2.2.1,s.2.2.2,b5,b5_1)
def Zmw (s1:Int) (s2:List En) (b0 b0_1:List Int) (b0_2:Int) (b0_3:List C) (b1:Int) (b1_1:Bool) (b5:Int) (b5_1:Bool) (s7:List A) (s:Bool×(List Int)×(List E)×(List Int)):Option KI:=Zl (fun i s d=>W7 s1 s2 b0 b0_1 b0_2 b0_3 b1 b1_1 b5 b5_1 s7 i s.1 s.2.1 s.2.2.1 s.2.2.2 d) (fun s=>Zmf s1 s2 b0 b0_1 b0_2 b0_3 b1 b1_1 b5 b5_1 s7 s.1 s.2.1 s.2.2.1 s.2.2.2) 0 s7 s
theorem ZIJ (s1:Int) (s2:List En) (b0 b0_1:List Int) (b0_2:Int) (b0_3:List C) (b1:Int) (b1_1:Bool) (b5:Int) (b5_1:Bool) (s7:List A) (s:Bool×(List Int)×(List E)×(List Int)) (hl:s7.length<9223372036854775807):Zds (s1,s2,s7,s.1,0,b0,b0_1,b0_2,b0_3,b1,b1_1,s.2.1,s.2.2.1,s.2.2.2,b5,b5_1)=Zmw s1 s2 b0 b0_1 b0_2 b0_3 b1 b1_1 b5 b5_1 s7 s:=by
 unfold Zds Zmw
 refine Zk s7 (ZJc s1 s2 b0 b0_1 b0_2 b0_3 b1 b1_1 b5 b5_1 s7) _ _ ?_ ?_ s (by unfold Zj;omega)
 ·intro i s d hi hd
  have e1:decide ((i:Int)<(s7.length:Int))=true:=decide_eq_true (by omega)
  have e2:decide (0≤(i:Int))=true:=decide_eq_true (by omega)
  have e3:Int.toNat (i:Int)=i:=Int.toNat_natCast i
  have e4:=Zm hi (Nat.le_of_lt hl)
  show ZcQ (s1) (s2) (s7) (s.1) ((i:Int)) (b0) (b0_1) (b0_2) (b0_3) (b1) (b1_1) (s.2.1) (s.2.2.1) (s.2.2.2) (b5) (b5_1)=upd _ (W7 s1 s2 b0 b0_1 b0_2 b0_3 b1 b1_1 b5 b5_1 s7 i s.1 s.2.1 s.2.2.1 s.2.2.2 d)
  unfold ZcQ W7
  simp only [e1,e2,e3,e4,hd,cond_true,cond_false,Zb,Zv,Zy,Zw,ZB,ZC,Zx]
 ·intro s
  have e1:decide ((s7.length:Int)<(s7.length:Int))=false:=decide_eq_false (by omega)
  show ZcQ (s1) (s2) (s7) (s.1) ((s7.length:Int)) (b0) (b0_1) (b0_2) (b0_3) (b1) (b1_1) (s.2.1) (s.2.2.1) (s.2.2.2) (b5) (b5_1)=_
  unfold ZcQ Zmf
  rw [e1]
  rfl
def ZfT (s1:Int) (s2:List En) (s7:List A) (s15:Int) (b0 b0_1:List Int) (b0_2:Int) (b0_3:List C) (b1:Int) (b1_1:Bool) (b2:List Int) (b3:List E) (b4:List Int) (b5:Int) (b5_1:Bool) (b6:List En) (b7:List Ac) (b9:Bool) (b9_1 b9_2 b9_3:List I) (b9_4 b9_5:Int) (b9_6:Bool) (b9_7 b9_8 b9_9:List I) (b9_10 b9_11:Int) (b9_13:List En) (b9_14:List Ac) (b9_12:List Int) (i:Nat) (b8:List Al) (d:Int):Option ((List Al)⊕KJ):=
 bif decide ((b8.length+[(1,s1,s15,d,0,0)].length+1)*48≤lim) then
  some (Sum.inl (b8++[(1,s1,s15,d,0,0)]))
 else none
def Zmg (s1:Int) (s2:List En) (s7:List A) (s15:Int) (b0 b0_1:List Int) (b0_2:Int) (b0_3:List C) (b1:Int) (b1_1:Bool) (b2:List Int) (b3:List E) (b4:List Int) (b5:Int) (b5_1:Bool) (b6:List En) (b7:List Ac) (b9:Bool) (b9_1 b9_2 b9_3:List I) (b9_4 b9_5:Int) (b9_6:Bool) (b9_7 b9_8 b9_9:List I) (b9_10 b9_11:Int) (b9_13:List En) (b9_14:List Ac) (b9_12:List Int) (b8:List Al):Option KJ:=
 some (s1,s2,s7,s15,b0,b0_1,b0_2,b0_3,b1,b1_1,b2,b3,b4,b5,b5_1,b6,b7,b8)
abbrev ZJd (s1:Int) (s2:List En) (s7:List A) (s15:Int) (b0 b0_1:List Int) (b0_2:Int) (b0_3:List C) (b1:Int) (b1_1:Bool) (b2:List Int) (b3:List E) (b4:List Int) (b5:Int) (b5_1:Bool) (b6:List En) (b7:List Ac) (b9:Bool) (b9_1 b9_2 b9_3:List I) (b9_4 b9_5:Int) (b9_6:Bool) (b9_7 b9_8 b9_9:List I) (b9_10 b9_11:Int) (b9_13:List En) (b9_14:List Ac) (b9_12:List Int) (i:Nat) (s:List Al):Vp:=(s1,s2,s7,s15,(i:Int),b0,b0_1,b0_2,b0_3,b1,b1_1,b2,b3,b4,b5,b5_1,b6,b7,s,b9,b9_1,b9_2,b9_3,b9_4,b9_5,b9_6,b9_7,b9_8,b9_9,b9_10,b9_11,b9_12,b9_13,b9_14)
def Zmx (s1:Int) (s2:List En) (s7:List A) (s15:Int) (b0 b0_1:List Int) (b0_2:Int) (b0_3:List C) (b1:Int) (b1_1:Bool) (b2:List Int) (b3:List E) (b4:List Int) (b5:Int) (b5_1:Bool) (b6:List En) (b7:List Ac) (b9:Bool) (b9_1 b9_2 b9_3:List I) (b9_4 b9_5:Int) (b9_6:Bool) (b9_7 b9_8 b9_9:List I) (b9_10 b9_11:Int) (b9_13:List En) (b9_14:List Ac) (b9_12:List Int) (s:List Al):Option KJ:=Zl (fun i s d=>ZfT s1 s2 s7 s15 b0 b0_1 b0_2 b0_3 b1 b1_1 b2 b3 b4 b5 b5_1 b6 b7 b9 b9_1 b9_2 b9_3 b9_4 b9_5 b9_6 b9_7 b9_8 b9_9 b9_10 b9_11 b9_13 b9_14 b9_12 i s d) (fun s=>Zmg s1 s2 s7 s15 b0 b0_1 b0_2 b0_3 b1 b1_1 b2 b3 b4 b5 b5_1 b6 b7 b9 b9_1 b9_2 b9_3 b9_4 b9_5 b9_6 b9_7 b9_8 b9_9 b9_10 b9_11 b9_13 b9_14 b9_12 s) 0 b9_12 s
theorem ZIK (s1:Int) (s2:List En) (s7:List A) (s15:Int) (b0 b0_1:List Int) (b0_2:Int) (b0_3:List C) (b1:Int) (b1_1:Bool) (b2:List Int) (b3:List E) (b4:List Int) (b5:Int) (b5_1:Bool) (b6:List En) (b7:List Ac) (b9:Bool) (b9_1 b9_2 b9_3:List I) (b9_4 b9_5:Int) (b9_6:Bool) (b9_7 b9_8 b9_9:List I) (b9_10 b9_11:Int) (b9_13:List En) (b9_14:List Ac) (b9_12:List Int) (s:List Al) (hl:b9_12.length<9223372036854775807):Zdt (s1,s2,s7,s15,0,b0,b0_1,b0_2,b0_3,b1,b1_1,b2,b3,b4,b5,b5_1,b6,b7,s,b9,b9_1,b9_2,b9_3,b9_4,b9_5,b9_6,b9_7,b9_8,b9_9,b9_10,b9_11,b9_12,b9_13,b9_14)=Zmx s1 s2 s7 s15 b0 b0_1 b0_2 b0_3 b1 b1_1 b2 b3 b4 b5 b5_1 b6 b7 b9 b9_1 b9_2 b9_3 b9_4 b9_5 b9_6 b9_7 b9_8 b9_9 b9_10 b9_11 b9_13 b9_14 b9_12 s:=by
 unfold Zdt Zmx
 refine Zk b9_12 (ZJd s1 s2 s7 s15 b0 b0_1 b0_2 b0_3 b1 b1_1 b2 b3 b4 b5 b5_1 b6 b7 b9 b9_1 b9_2 b9_3 b9_4 b9_5 b9_6 b9_7 b9_8 b9_9 b9_10 b9_11 b9_13 b9_14 b9_12) _ _ ?_ ?_ s (by unfold Zj;omega)
 ·intro i s d hi hd
  have e1:decide ((i:Int)<(b9_12.length:Int))=true:=decide_eq_true (by omega)
  have e2:decide (0≤(i:Int))=true:=decide_eq_true (by omega)
  have e3:Int.toNat (i:Int)=i:=Int.toNat_natCast i
  have e4:=Zm hi (Nat.le_of_lt hl)
  show ZcR (s1) (s2) (s7) (s15) ((i:Int)) (b0) (b0_1) (b0_2) (b0_3) (b1) (b1_1) (b2) (b3) (b4) (b5) (b5_1) (b6) (b7) (s) (b9) (b9_1) (b9_2) (b9_3) (b9_4) (b9_5) (b9_6) (b9_7) (b9_8) (b9_9) (b9_10) (b9_11) (b9_12) (b9_13) (b9_14)=upd _ (ZfT s1 s2 s7 s15 b0 b0_1 b0_2 b0_3 b1 b1_1 b2 b3 b4 b5 b5_1 b6 b7 b9 b9_1 b9_2 b9_3 b9_4 b9_5 b9_6 b9_7 b9_8 b9_9 b9_10 b9_11 b9_13 b9_14 b9_12 i s d)
  unfold ZcR ZfT
  simp only [e1,e2,e3,e4,hd,cond_true,cond_false,Zb,Zv,Zy,Zw,ZB,ZC,Zx]
 ·intro s
  have e1:decide ((b9_12.length:Int)<(b9_12.length:Int))=false:=decide_eq_false (by omega)
  show ZcR (s1) (s2) (s7) (s15) ((b9_12.length:Int)) (b0) (b0_1) (b0_2) (b0_3) (b1) (b1_1) (b2) (b3) (b4) (b5) (b5_1) (b6) (b7) (s) (b9) (b9_1) (b9_2) (b9_3) (b9_4) (b9_5) (b9_6) (b9_7) (b9_8) (b9_9) (b9_10) (b9_11) (b9_12) (b9_13) (b9_14)=_
  unfold ZcR Zmg
  rw [e1]
  rfl
section
open Go.Proofs
def outV (u:U) (t n:Int) (e:E) (l:List En):O:=(Za7 u t n e l).getD (offE,offE,[],[],[])
abbrev St3:=Bool×List E×List Int
def nodeV (u:U) (t:Int) (l:List En) (st:List Int) (i:Nat) (s:St3) (d:A):St3:=
 let o:=outV u t i ((s.2.1[i]?).getD offE) l
 let r:=comeV st i d.2.2.2.2.2.2.2.1 o.1 s.2.1 s.2.2
 let q:=comeV st i d.2.2.2.2.2.2.2.2 o.2.1 r.2.1 r.2.2
 (s.1||r.1||q.1,q.2.1,q.2.2)
structure Inv (u:U) (t:Int) (k:Nat) (es:List E) (ns:List Int):Prop where
 ok:∀ x∈es,okE u t x
 le:es.length=k
 ln:ns.length=k
section
variable {u:U} {t:Int} {l:List En} {st:List Int} {c:C}
theorem Zog (hu:unitOK u) (ht:0≤t) (hl:tabOK l) (hn:l.length≤1000) (hc:u.2.2.2[t.toNat]? = some c) {e:E} (he:okE u t e) {i:Nat} (hi:i<c.2.length) :
  Za7 u t i e l=some (outV u t i e l)∧Zkw u t i e l=some (outV u t i e l)∧outOK u t i e (outV u t i e l)∧Zbb (outV u t i e l):=by
 obtain ⟨o,h1,h2,h3,h4⟩:=Z0U hu ht hl hn he.env (n:=(i:Int)) (by omega) hc (by omega)
 have:outV u t i e l=o:=by unfold outV;rw [h1];rfl
 rw [this]
 exact ⟨h1,h2,h3,h4⟩
theorem ZFv (hu:unitOK u) (ht:0≤t) (hl:tabOK l) (hn:l.length≤1000) (hst:st.length<9223372036854775807) (hc:u.2.2.2[t.toNat]? = some c) {x0 x4:Int} {x1 x5:Bool} {b:Bool} {es:List E} {ns:List Int} (v:Inv u t c.2.length es ns) {i:Nat} {d:A} (hd:c.2[i]? = some d) :
  Zch x0 x1 x4 x5 c.2 i b u.1 u.2.1 u.2.2.1 u.2.2.2 t l c.2 st es ns d =
   some (.inl ((nodeV u t l st i (b,es,ns) d).1,u.1,u.2.1,u.2.2.1,u.2.2.2,t,l,c.2,st,(nodeV u t l st i (b,es,ns) d).2.1,(nodeV u t l st i (b,es,ns) d).2.2)) ∧
  W7 t l u.1 u.2.1 u.2.2.1 u.2.2.2 x0 x1 x4 x5 c.2 i b st es ns d=some (.inl ((nodeV u t l st i (b,es,ns) d).1,st,(nodeV u t l st i (b,es,ns) d).2.1,(nodeV u t l st i (b,es,ns) d).2.2)) ∧
  Inv u t c.2.length (nodeV u t l st i (b,es,ns) d).2.1 (nodeV u t l st i (b,es,ns) d).2.2:=by
 have hi:=(List.getElem?_eq_some_iff.1 hd).1
 have ha:=(hu.ts c (List.mem_of_getElem? hc)).a d (List.mem_of_getElem? hd)
 have hie:i<es.length:=by rw [v.le];exact hi
 have ge:es[i]? = some es[i]:=List.getElem?_eq_getElem hie
 have he:=v.ok _ (List.getElem_mem hie)
 obtain ⟨o1,o2,o3,_⟩:=Zog hu ht hl hn hc he hi
 have hx:=ha.nx
 have hy:=ha.el
 have c1:=ZLg (st:=st) (fr:=(i:Int)) (to:=d.2.2.2.2.2.2.2.1) (e:=(outV u t i es[i] l).1) (ns:=ns) v.ok o3.nx
 have c2:=ZLg (st:=st) (fr:=(i:Int)) (to:=d.2.2.2.2.2.2.2.2) (e:=(outV u t i es[i] l).2.1) (ns:=(comeV st i d.2.2.2.2.2.2.2.1 (outV u t i es[i] l).1 es ns).2.2) c1.1 o3.el
 have f1:=fun b0 b1 b2 b3 b4 b5 b6=>ZWW (b0:=b0) (b1:=b1) (b2:=b2) (b3:=b3) (b4:=b4) (b5:=b5) (b6:=b6) hu hst (fr:=(i:Int)) (to:=d.2.2.2.2.2.2.2.1) (ns:=ns) v.ok o3.nx hx.1 (by have:=v.le;omega) (by rw [v.ln,v.le])
 have f2:=fun b0 b1 b2 b3 b4 b5 b6=>ZWW (b0:=b0) (b1:=b1) (b2:=b2) (b3:=b3) (b4:=b4) (b5:=b5) (b6:=b6) hu hst (fr:=(i:Int)) (to:=d.2.2.2.2.2.2.2.2) (ns:=(comeV st i d.2.2.2.2.2.2.2.1 (outV u t i es[i] l).1 es ns).2.2) c1.1 o3.el hy.1 (by rw [c1.2.1];have:=v.le;omega) (by rw [c1.2.2,c1.2.1,v.ln,v.le])
 have r1:=ZYP hu hst (fr:=(i:Int)) (to:=d.2.2.2.2.2.2.2.1) (ns:=ns) v.ok o3.nx hx.1 (by have:=v.le;omega) (by rw [v.ln,v.le])
 have r2:=ZYP hu hst (fr:=(i:Int)) (to:=d.2.2.2.2.2.2.2.2) (ns:=(comeV st i d.2.2.2.2.2.2.2.1 (outV u t i es[i] l).1 es ns).2.2) c1.1 o3.el hy.1 (by rw [c1.2.1];have:=v.le;omega) (by rw [c1.2.2,c1.2.1,v.ln,v.le])
 have hN:nodeV u t l st i (b,es,ns) d=(b||(comeV st i d.2.2.2.2.2.2.2.1 (outV u t i es[i] l).1 es ns).1||(comeV st i d.2.2.2.2.2.2.2.2 (outV u t i es[i] l).2.1 (comeV st i d.2.2.2.2.2.2.2.1 (outV u t i es[i] l).1 es ns).2.1 (comeV st i d.2.2.2.2.2.2.2.1 (outV u t i es[i] l).1 es ns).2.2).1,
   (comeV st i d.2.2.2.2.2.2.2.2 (outV u t i es[i] l).2.1 (comeV st i d.2.2.2.2.2.2.2.1 (outV u t i es[i] l).1 es ns).2.1 (comeV st i d.2.2.2.2.2.2.2.1 (outV u t i es[i] l).1 es ns).2.2).2):=by
  unfold nodeV
  simp only [ge,Option.getD_some]
 rw [hN]
 refine ⟨?_,?_,⟨c2.1,c2.2.1.trans (c1.2.1.trans v.le),c2.2.2.trans (c1.2.2.trans v.ln)⟩⟩
 ·unfold Zch
  simp only [ge,Zb,ZgJ,o1,Zcg,f1,f2]
  cases b<;>cases (comeV st i d.2.2.2.2.2.2.2.1 (outV u t i es[i] l).1 es ns).1<;>rfl
 ·unfold W7
  simp only [ge,hd,Zb,Zew,o2,ZaY,r1,r2]
  cases b<;>cases (comeV st i d.2.2.2.2.2.2.2.1 (outV u t i es[i] l).1 es ns).1<;>rfl
end
end
section
open Go.Proofs
theorem ZPU {σ τ α Y:Type} {f:Nat→σ→α→Option (σ⊕Y)} {fin:σ→Option Y} (mkS:τ→σ) {g:Nat→τ→α→τ} {ok:τ→Prop} {L:List α} (h:∀ j s d,L[j]? = some d→ok s→f j (mkS s) d=some (.inl (mkS (g j s d)))∧ok (g j s d)) :
  ∀ (r:List α) (i:Nat) (s:τ),L.drop i=r→ok s→Zl f fin i r (mkS s)=fin (mkS (Qp g i r s))∧ok (Qp g i r s)
 | [],i,s,_,hs=>⟨rfl,hs⟩
 | d::r,i,s,hd,hs=>by
  have e:L[i]? = some d:=by
   have:=congrArg (fun q=>q[0]?) hd
   simpa using this
  obtain ⟨h1,h2⟩:=h i s d e hs
  rw [Qk h1]
  exact ZPU mkS h r (i+1) (g i s d) (by rw [← List.drop_drop,hd];rfl) h2
def ZX (u:U) (t:Int) (l:List En) (st:List Int) (c:C) (es:List E) (ns:List Int):St3:=Qp (fun i s d=>nodeV u t l st i s d) 0 c.2 (false,es,ns)
def runV (u:U) (t:Int) (l:List En) (st:List Int) (c:C):Nat→List E→List Int→Int→Bool→List E×List Int×Int×Bool
 | 0,es,ns,r,d=>(es,ns,r,d)
 | n+1,es,ns,r,d=>bif d then (es,ns,r,d) else runV u t l st c n (ZX u t l st c es ns).2.1 (ZX u t l st c es ns).2.2 (r+1) (!(ZX u t l st c es ns).1)
section
variable {u:U} {t:Int} {l:List En} {st:List Int} {c:C}
theorem ZUZ (hu:unitOK u) (ht:0≤t) (hl:tabOK l) (hn:l.length≤1000) (hst:st.length<9223372036854775807) (hc:u.2.2.2[t.toNat]? = some c) {x0 x4:Int} {x1 x5:Bool} {es:List E} {ns:List Int} (v:Inv u t c.2.length es ns) :
  Zfl (false,c.2,(c.2.length:Int),0,x0,x1,u.1,u.2.1,u.2.2.1,u.2.2.2,t,l,c.2,st,es,ns,x4,x5) =
   some ((ZX u t l st c es ns).1,x0,x1,u.1,u.2.1,u.2.2.1,u.2.2.2,t,l,c.2,st,(ZX u t l st c es ns).2.1,(ZX u t l st c es ns).2.2,x4,x5) ∧
  Zds (t,l,c.2,false,0,u.1,u.2.1,u.2.2.1,u.2.2.2,x0,x1,st,es,ns,x4,x5) =
   some (t,l,c.2,(ZX u t l st c es ns).1,u.1,u.2.1,u.2.2.1,u.2.2.2,x0,x1,st,(ZX u t l st c es ns).2.1,(ZX u t l st c es ns).2.2,x4,x5) ∧
  Inv u t c.2.length (ZX u t l st c es ns).2.1 (ZX u t l st c es ns).2.2:=by
 have cl:=(hu.ts c (List.mem_of_getElem? hc)).n
 have h1:=ZPU (f:=fun i s d=>Zch x0 x1 x4 x5 c.2 i s.1 s.2.1 s.2.2.1 s.2.2.2.1 s.2.2.2.2.1 s.2.2.2.2.2.1 s.2.2.2.2.2.2.1 s.2.2.2.2.2.2.2.1 s.2.2.2.2.2.2.2.2.1 s.2.2.2.2.2.2.2.2.2.1 s.2.2.2.2.2.2.2.2.2.2 d)
  (fin:=fun s=>Zo7 x0 x1 x4 x5 c.2 s.1 s.2.1 s.2.2.1 s.2.2.2.1 s.2.2.2.2.1 s.2.2.2.2.2.1 s.2.2.2.2.2.2.1 s.2.2.2.2.2.2.2.1 s.2.2.2.2.2.2.2.2.1 s.2.2.2.2.2.2.2.2.2.1 s.2.2.2.2.2.2.2.2.2.2)
  (mkS:=fun s:St3=>(s.1,u.1,u.2.1,u.2.2.1,u.2.2.2,t,l,c.2,st,s.2.1,s.2.2)) (g:=fun i s d=>nodeV u t l st i s d) (ok:=fun s=>Inv u t c.2.length s.2.1 s.2.2) (L:=c.2)
  (fun j s d hd hs=>⟨(ZFv hu ht hl hn hst hc (b:=s.1) hs hd).1,(ZFv hu ht hl hn hst hc (x0:=x0) (x1:=x1) (x4:=x4) (x5:=x5) (b:=s.1) hs hd).2.2⟩) c.2 0 (false,es,ns) rfl v
 have h2:=ZPU (f:=fun i s d=>W7 t l u.1 u.2.1 u.2.2.1 u.2.2.2 x0 x1 x4 x5 c.2 i s.1 s.2.1 s.2.2.1 s.2.2.2 d)
  (fin:=fun s=>Zmf t l u.1 u.2.1 u.2.2.1 u.2.2.2 x0 x1 x4 x5 c.2 s.1 s.2.1 s.2.2.1 s.2.2.2)
  (mkS:=fun s:St3=>(s.1,st,s.2.1,s.2.2)) (g:=fun i s d=>nodeV u t l st i s d) (ok:=fun s=>Inv u t c.2.length s.2.1 s.2.2) (L:=c.2)
  (fun j s d hd hs=>⟨(ZFv hu ht hl hn hst hc (b:=s.1) hs hd).2.1,(ZFv hu ht hl hn hst hc (x0:=x0) (x1:=x1) (x4:=x4) (x5:=x5) (b:=s.1) hs hd).2.2⟩) c.2 0 (false,es,ns) rfl v
 refine ⟨?_,?_,h1.2⟩
 ·have:=ZLN x0 x1 x4 x5 c.2 (false,u.1,u.2.1,u.2.2.1,u.2.2.2,t,l,c.2,st,es,ns) (by omega)
  refine this.trans ?_
  unfold Zpm
  exact h1.1
 ·have:=ZIJ t l u.1 u.2.1 u.2.2.1 u.2.2.2 x0 x1 x4 x5 c.2 (false,st,es,ns) (by omega)
  refine this.trans ?_
  unfold Zmw
  exact h2.1
theorem Z3P {r:Int} (h0:0≤r) (h1:r≤1000):IntKind.i64.wrap (r+1)=r+1:=ZrC (by omega) (by omega)
theorem ZW9 (hu:unitOK u) (ht:0≤t) (hl:tabOK l) (hn:l.length≤1000) (hst:st.length<9223372036854775807) (hc:u.2.2.2[t.toNat]? = some c) {x0:Int} {x1:Bool}:∀ (n:Nat) (es:List E) (ns:List Int) (r:Int) (d:Bool) (k:Nat),0≤r→r+n=100→Inv u t c.2.length es ns→
  iterO WJ (k+n+1) (t,c.2,x0,x1,u.1,u.2.1,u.2.2.1,u.2.2.2,t,l,c.2,st,es,ns,r,d) =
   some (t,c.2,x0,x1,u.1,u.2.1,u.2.2.1,u.2.2.2,t,l,c.2,st,runV u t l st c n es ns r d) ∧
  iterO Ho (k+n+1) (t,l,c.2,u.1,u.2.1,u.2.2.1,u.2.2.2,x0,x1,st,es,ns,r,d) =
   some (t,l,c.2,u.1,u.2.1,u.2.2.1,u.2.2.2,x0,x1,st,runV u t l st c n es ns r d)∧Inv u t c.2.length (runV u t l st c n es ns r d).1 (runV u t l st c n es ns r d).2.1
 | 0,es,ns,r,d,k,h0,h1,v=>by
  have e:decide (r<100)=false:=decide_eq_false (by omega)
  refine ⟨?_,?_,v⟩
  ·simp only [iterO,WJ,ZiB,e]
   cases d<;>rfl
  ·simp only [iterO,Ho,Zf4,e]
   cases d<;>rfl
 | n+1,es,ns,r,true,k,h0,h1,v=>by
  refine ⟨?_,?_,v⟩
  ·simp only [iterO,WJ,ZiB,Bool.not_true,cond_false];rfl
  ·simp only [iterO,Ho,Zf4,Bool.not_true,cond_false];rfl
 | n+1,es,ns,r,false,k,h0,h1,v=>by
  have e:decide (r<100)=true:=decide_eq_true (by omega)
  have w:=Z3P h0 (by omega)
  have q1:=ZUZ hu ht hl hn hst hc (x0:=x0) (x1:=x1) (x4:=r+1) (x5:=false) v
  have q2:=ZUZ hu ht hl hn hst hc (x0:=x0) (x1:=x1) (x4:=r) (x5:=false) v
  have ih:=ZW9 hu ht hl hn hst hc (x0:=x0) (x1:=x1) n (ZX u t l st c es ns).2.1 (ZX u t l st c es ns).2.2 (r+1) (!(ZX u t l st c es ns).1) k (by omega) (by omega) q1.2.2
  refine ⟨?_,?_,ih.2.2⟩
  ·rw [show k+(n+1)+1=(k+n+1)+1 by omega,iterO]
   simp only [WJ,ZiB,e,w,Bool.not_false,cond_true,q1.1,Zb]
   exact ih.1
  ·rw [show k+(n+1)+1=(k+n+1)+1 by omega,iterO]
   simp only [Ho,Zf4,e,Bool.not_false,cond_true,q2.2.1,Zb,w]
   exact ih.2.1
end
end
section
open Go.Proofs
abbrev Ga:=List En×List Ac×List Al
def gatN (t:Int) (i:Nat) (s:Ga) (o:O):Ga:=(addT iJoin s.1 o.2.2.2.1,s.2.1++o.2.2.2.2,s.2.2++o.2.2.1.map (fun e=>((1,t,(i:Int),e,0,0):Al)))
def gatV (u:U) (t:Int) (l:List En) (es:List E) (i:Nat) (r:List A) (s:Ga):Ga:=Qp (fun i s _=>gatN t i s (outV u t i ((es[i]?).getD offE) l)) i r s
structure GInv (i:Nat) (s:Ga):Prop where
 k:tabOK s.1
 a:s.1.length≤i
 b:s.2.1.length≤i
 c:s.2.2.length≤2*i
theorem ZFo {α β Y:Type} {f:Nat→List β→α→Option (List β⊕Y)} {fin:List β→Option Y} {F:α→β} (h:∀ j s d,s.length≤1000→f j s d=some (.inl (s++[F d]))) :
  ∀ (l:List α) (j:Nat) (s:List β),s.length+l.length≤1000→Zl f fin j l s=fin (s++l.map F)
 | [],j,s,_=>by simp [Zl]
 | d::r,j,s,hs=>by
  rw [List.length_cons] at hs
  rw [Qk (h j s d (by omega)),ZFo h r (j+1) (s++[F d]) (by rw [List.length_append];simp;omega),List.map_cons,List.append_assoc]
  rfl
section
variable {u:U} {t:Int} {l:List En} {st:List Int} {c:C}
theorem ZYD {i:Nat} {s:Ga} {e:E} {o:O} (v:GInv i s) (h:outOK u t i e o):GInv (i+1) (gatN t i s o):=by
 have ha:∀ x∈o.2.2.2.1,okA x:=fun x hx=>(h.st.2 x hx).1.a
 have h1:=ZLe iJoin o.2.2.2.1 s.1
 have:=v.a
 have:=v.b
 have:=v.c
 have:=h.st.1
 have:=h.ac.1
 have:=h.al.1
 refine ⟨ZXm ZNL v.k ha,?_,?_,?_⟩
 ·show (addT iJoin s.1 o.2.2.2.1).length≤i+1
  omega
 ·simp only [gatN,List.length_append];omega
 ·simp only [gatN,List.length_append,List.length_map];omega
theorem ZW7 (hu:unitOK u) (ht:0≤t) (hl:tabOK l) (hn:l.length≤1000) (hc:u.2.2.2[t.toNat]? = some c) {x0 x4:Int} {x1 x5:Bool} {es:List E} {ns:List Int} (v:Inv u t c.2.length es ns) :
  ∀ (r:List A) (i:Nat) (s:Ga) (k:Nat),c.2.drop i=r→i+r.length=c.2.length→GInv i s→
  iterO Zad (k+r.length+1) (t,l,c.2,(i:Int),u.1,u.2.1,u.2.2.1,u.2.2.2,x0,x1,st,es,ns,x4,x5,s.1,s.2.1,s.2.2) =
   some (x0,x1,st,es,ns,x4,x5,gatV u t l es i r s)∧GInv c.2.length (gatV u t l es i r s)
 | [],i,s,k,hd,hi,g=>by
  have hi:i=c.2.length:=by simpa using hi
  have e:decide ((i:Int)<(c.2.length:Int))=false:=decide_eq_false (by omega)
  refine ⟨?_,by subst hi;exact g⟩
  simp only [iterO,Zad,ZmC,e,cond_false]
  rfl
 | d::r,i,s,k,hd,hi,g=>by
  rw [List.length_cons] at hi ⊢
  have cl:=(hu.ts c (List.mem_of_getElem? hc)).n
  have hlt:i<c.2.length:=by omega
  have e:decide ((i:Int)<(c.2.length:Int))=true:=decide_eq_true (by omega)
  have e0:decide (0≤(i:Int))=true:=decide_eq_true (by omega)
  have hie:i<es.length:=by rw [v.le];exact hlt
  have ge:es[i]? = some es[i]:=List.getElem?_eq_getElem hie
  obtain ⟨o1,o2,o3,_⟩:=Zog hu ht hl hn hc (v.ok _ (List.getElem_mem hie)) hlt
  have hV:gatV u t l es i (d::r) s=gatV u t l es (i+1) r (gatN t i s (outV u t i es[i] l)):=by
   show Qp _ _ _ _=_
   rw [Qp]
   simp only [ge,Option.getD_some]
   rfl
  have g2:=ZYD g o3
  have ih:=ZW7 hu ht hl hn hc (x0:=x0) (x4:=x4) (x1:=x1) (x5:=x5) v r (i+1) _ k (by rw [← List.drop_drop,hd];rfl) (by omega) g2
  rw [hV]
  refine ⟨?_,ih.2⟩
  rw [show k+(r.length+1)+1=(k+r.length+1)+1 by omega,iterO]
  generalize outV u t i es[i] l=o at o2 o3 g2 ih
  have ga:=g.a
  have gb:=g.b
  have gc:=g.c
  have a1:=o3.st.1
  have a2:=o3.ac.1
  have a3:=o3.al.1
  have add:Zfe s.1 o.2.2.2.1=some (addT iJoin s.1 o.2.2.2.1):=by
   rw [ZzN _ _ (by omega),ZTo g.k.e fun x hx=>(o3.st.2 x hx).1.a]
  have lm:decide ((s.2.1.length+o.2.2.2.2.length+1)*48≤lim)=true:=decide_eq_true (by unfold lim;omega)
  have al:=ZIK t l c.2 i u.1 u.2.1 u.2.2.1 u.2.2.2 x0 x1 st es ns x4 x5 (addT iJoin s.1 o.2.2.2.1) (s.2.1++o.2.2.2.2) o.1.1 o.1.2.1 o.1.2.2.1 o.1.2.2.2.1 o.1.2.2.2.2.1 o.1.2.2.2.2.2 o.2.1.1 o.2.1.2.1 o.2.1.2.2.1 o.2.1.2.2.2.1 o.2.1.2.2.2.2.1 o.2.1.2.2.2.2.2 o.2.2.2.1 o.2.2.2.2 o.2.2.1 s.2.2 (by omega)
  unfold Zmx at al
  rw [ZFo (F:=fun e=>((1,t,(i:Int),e,0,0):Al)) (fun j s d hs=>?_) o.2.2.1 0 s.2.2 (by omega)] at al
  ·have w:=Zm (i:=i) (n:=c.2.length) hlt (by omega)
   have al':Zdt (t,l,c.2,(i:Int),0,u.1,u.2.1,u.2.2.1,u.2.2.2,x0,x1,st,es,ns,x4,x5,addT iJoin s.1 o.2.2.2.1,s.2.1++o.2.2.2.2,s.2.2,o.1.1,o.1.2.1,o.1.2.2.1,o.1.2.2.2.1,o.1.2.2.2.2.1,o.1.2.2.2.2.2,o.2.1.1,o.2.1.2.1,o.2.1.2.2.1,o.2.1.2.2.2.1,o.2.1.2.2.2.2.1,o.2.1.2.2.2.2.2,o.2.2)=_:=al
   simp only [Zad,ZmC,e,e0,cond_true,Int.toNat_natCast,ge,Zb,Zew,o2,Zhs,add,lm,al',Zmg,w]
   exact ih.1
  ·unfold ZfT
   have q:(s.length+1+1)*48≤lim:=by unfold lim;omega
   simp only [List.length_cons,List.length_nil,Nat.zero_add,decide_eq_true q,cond_true]
end
end
section
open Go.Proofs
section
variable {u:U} {t:Int} {l:List En} {st:List Int} {c:C}
theorem Z1c {x0 x4:Int} {x1 x5:Bool} {es:List E} {ns:List Int} {i:Nat} {s:Ga} {e:E} {o:O} (hi:i≤60) (g:GInv i s) (o3:outOK u t i e o) :
  Zkg (t,(i:Int),(([o].length:Nat):Int),0,[o],o.1.1,o.1.2.1,o.1.2.2.1,o.1.2.2.2.1,o.1.2.2.2.2.1,o.1.2.2.2.2.2,o.2.1.1,o.2.1.2.1,o.2.1.2.2.1,o.2.1.2.2.2.1,o.2.1.2.2.2.2.1,o.2.1.2.2.2.2.2,o.2.2.1,o.2.2.2.1,o.2.2.2.2,x0,x1,u.1,u.2.1,u.2.2.1,u.2.2.2,t,l,c.2,st,es,ns,x4,x5,s.1,s.2.1,s.2.2) =
   some ([o],o.1.1,o.1.2.1,o.1.2.2.1,o.1.2.2.2.1,o.1.2.2.2.2.1,o.1.2.2.2.2.2,o.2.1.1,o.2.1.2.1,o.2.1.2.2.1,o.2.1.2.2.2.1,o.2.1.2.2.2.2.1,o.2.1.2.2.2.2.2,o.2.2.1,o.2.2.2.1,o.2.2.2.2,x0,x1,u.1,u.2.1,u.2.2.1,u.2.2.2,t,l,c.2,st,es,ns,x4,x5,gatN t i s o):=by
 have ga:=g.a
 have gb:=g.b
 have gc:=g.c
 have a1:=o3.st.1
 have a2:=o3.ac.1
 have a3:=o3.al.1
 have add:Zv4 s.1 o.2.2.2.1=some (addT iJoin s.1 o.2.2.2.1):=ZRF _ _ g.k.srt (by omega)
 have lm:decide ((s.2.1.length+o.2.2.2.2.length+1)*48≤lim)=true:=decide_eq_true (by unfold lim;omega)
 have al:=ZLO t i (([o].length:Nat):Int) 0 [o] o.1.1 o.1.2.1 o.1.2.2.1 o.1.2.2.2.1 o.1.2.2.2.2.1 o.1.2.2.2.2.2 o.2.1.1 o.2.1.2.1 o.2.1.2.2.1 o.2.1.2.2.2.1 o.2.1.2.2.2.2.1 o.2.1.2.2.2.2.2 o.2.2.1 o.2.2.2.1 o.2.2.2.2 x0 x1 u.1 u.2.1 u.2.2.1 u.2.2.2 t l c.2 st es ns x4 x5 (addT iJoin s.1 o.2.2.2.1) (s.2.1++o.2.2.2.2) o.2.2.1 s.2.2 (by omega)
 unfold Zpn at al
 rw [ZFo (F:=fun e=>((1,t,(i:Int),e,0,0):Al)) (fun j s d hs=>?_) o.2.2.1 0 s.2.2 (by omega)] at al
 ·unfold Zkg
  have f:Zj=18446744073709551614+1+1:=rfl
  rw [f,iterO]
  have e1:decide ((0:Int)<(([o].length:Nat):Int))=true:=rfl
  have e2:decide ((0:Int)≤0)=true:=rfl
  have e3:([o]:List O)[Int.toNat 0]? = some o:=rfl
  have e4:IntKind.i64.wrap (0+1)=1:=rfl
  simp only [ZiC,ZxV,e1,e2,e3,e4,cond_true,Zb,ZvG,add,lm,al,Zo8]
  rfl
 ·unfold Zim
  have q:(s.length+1+1)*48≤lim:=by unfold lim;omega
  simp only [List.length_cons,List.length_nil,Nat.zero_add,decide_eq_true q,cond_true]
theorem ZWC (hu:unitOK u) (ht:0≤t) (hl:tabOK l) (hn:l.length≤1000) (hc:u.2.2.2[t.toNat]? = some c) {x0 x4:Int} {x1 x5:Bool} {es:List E} {ns:List Int} (v:Inv u t c.2.length es ns) :
  ∀ (r:List A) (i:Nat) (s:Ga) (k:Nat),c.2.drop i=r→i+r.length=c.2.length→GInv i s→
  iterO Zcm (k+r.length+1) (t,(c.2.length:Int),(i:Int),x0,x1,u.1,u.2.1,u.2.2.1,u.2.2.2,t,l,c.2,st,es,ns,x4,x5,s.1,s.2.1,s.2.2) =
   some (x0,x1,u.1,u.2.1,u.2.2.1,u.2.2.2,t,l,c.2,st,es,ns,x4,x5,gatV u t l es i r s)
 | [],i,s,k,hd,hi,g=>by
  have hi:i=c.2.length:=by simpa using hi
  have e:decide ((i:Int)<(c.2.length:Int))=false:=decide_eq_false (by omega)
  simp only [iterO,Zcm,Zps,e,cond_false]
  rfl
 | d::r,i,s,k,hd,hi,g=>by
  rw [List.length_cons] at hi ⊢
  have cl:=(hu.ts c (List.mem_of_getElem? hc)).n
  have hlt:i<c.2.length:=by omega
  have e:decide ((i:Int)<(c.2.length:Int))=true:=decide_eq_true (by omega)
  have e0:decide (0≤(i:Int))=true:=decide_eq_true (by omega)
  have hie:i<es.length:=by rw [v.le];exact hlt
  have ge:es[i]? = some es[i]:=List.getElem?_eq_getElem hie
  obtain ⟨o1,o2,o3,_⟩:=Zog hu ht hl hn hc (v.ok _ (List.getElem_mem hie)) hlt
  have hV:gatV u t l es i (d::r) s=gatV u t l es (i+1) r (gatN t i s (outV u t i es[i] l)):=by
   show Qp _ _ _ _=_
   rw [Qp]
   simp only [ge,Option.getD_some]
   rfl
  have g2:=ZYD g o3
  have ih:=ZWC hu ht hl hn hc (x0:=x0) (x4:=x4) (x1:=x1) (x5:=x5) v r (i+1) _ k (by rw [← List.drop_drop,hd];rfl) (by omega) g2
  rw [hV]
  rw [show k+(r.length+1)+1=(k+r.length+1)+1 by omega,iterO]
  have w:=Zm (i:=i) (n:=c.2.length) hlt (by omega)
  have one:=Z1c (l:=l) (st:=st) (c:=c) (x0:=x0) (x4:=x4) (x1:=x1) (x5:=x5) (es:=es) (ns:=ns) (by omega) g o3
  simp only [Zcm,Zps,e,e0,cond_true,Int.toNat_natCast,ge,Zb,ZgJ,o1,one,w]
  exact ih
end
end
section
open Go.Proofs
def es0 (u:U) (c:C):List E:=(List.replicate c.2.length offE).set 0 (Zfq u c)
def ns0 (c:C):List Int:=List.replicate c.2.length 0
def endV (u:U) (t:Int) (l:List En) (st:List Int) (c:C):List E×List Int×Int×Bool:=runV u t l st c 100 (es0 u c) (ns0 c) 0 false
def gatE (u:U) (t:Int) (l:List En) (st:List Int) (c:C):Ga:=gatV u t l (endV u t l st c).1 0 c.2 ([],[],[])
def resV (u:U) (t:Int) (l:List En) (st:List Int) (c:C):Re:=((endV u t l st c).1,(gatE u t l st c).1,(gatE u t l st c).2.1,(gatE u t l st c).2.2,(endV u t l st c).2.2.1,(endV u t l st c).2.2.2)
section
variable {u:U} {t:Int} {l:List En} {st:List Int} {c:C}
theorem ZXI (hu:unitOK u) (hc:u.2.2.2[t.toNat]? = some c):Inv u t c.2.length (es0 u c) (ns0 c):=by
 refine ⟨fun x hx=>?_,by simp [es0],by simp [ns0]⟩
 rcases List.mem_or_eq_of_mem_set hx with k | rfl
 ·exact .inl (List.mem_replicate.1 k).2
 ·exact .inr ⟨rfl,ZNu u t hu hc⟩
theorem Z0V:GInv 0 (([],[],[]):Ga):=⟨⟨(fun x k=>nomatch k),(fun i a b h=>by simp at h)⟩,by simp,by simp,by simp⟩
theorem Z28 (hu:unitOK u) (ht:0≤t) (hl:tabOK l) (hn:l.length≤1000) (hst:st.length<9223372036854775807) (hc:u.2.2.2[t.toNat]? = some c) (s1:ZpX u=some st) (s2:ZnS u=some st) :
  Zrb u t l=some (resV u t l st c)∧ZpZ u t l=some (resV u t l st c)∧Inv u t c.2.length (endV u t l st c).1 (endV u t l st c).2.1∧GInv c.2.length (gatE u t l st c):=by
 have cl:=(hu.ts c (List.mem_of_getElem? hc)).n
 have v0:=ZXI hu hc
 have q:=ZW9 hu ht hl hn hst hc (x0:=0) (x1:=false) 100 (es0 u c) (ns0 c) 0 false 18446744073709551515 (by decide) (by decide) v0
 have vE:Inv u t c.2.length (endV u t l st c).1 (endV u t l st c).2.1:=q.2.2
 have hF:Zj=18446744073709551515+100+1:=rfl
 have hG:Zj=(Zj - c.2.length - 1)+c.2.length+1:=by unfold Zj;omega
 have ga:=ZWC hu ht hl hn hc (st:=st) (x0:=0) (x1:=false) (x4:=(endV u t l st c).2.2.1) (x5:=(endV u t l st c).2.2.2) vE c.2 0 ([],[],[]) (Zj - c.2.length - 1) rfl (by omega) Z0V
 have gb:=ZW7 hu ht hl hn hc (st:=st) (x0:=0) (x1:=false) (x4:=(endV u t l st c).2.2.1) (x5:=(endV u t l st c).2.2.2) vE c.2 0 ([],[],[]) (Zj - c.2.length - 1) rfl (by omega) Z0V
 rw [← hG] at ga gb
 have e0:decide (0≤t)=true:=decide_eq_true ht
 have m1:decide (0≤(c.2.length:Int)∧True∧c.2.length*(96+1)≤lim)=true:=decide_eq_true ⟨by omega,trivial,by unfold lim;omega⟩
 have m2:decide (0≤(c.2.length:Int)∧True∧c.2.length*(8+1)≤lim)=true:=decide_eq_true ⟨by omega,trivial,by unfold lim;omega⟩
 have r0:(List.replicate c.2.length ((false,[],[],[],0,0):E))[Int.toNat 0]? = some offE:=by
  rw [List.getElem?_replicate,if_pos (show Int.toNat 0<c.2.length by simp;omega)];rfl
 have f1:=ZMF u t hu ht hc
 have f2:=ZHT u t hu ht hc
 have L1:Zke (t,c.2,0,false,u.1,u.2.1,u.2.2.1,u.2.2.2,t,l,c.2,st,(List.replicate c.2.length ((false,[],[],[],0,0):E)).set (Int.toNat 0) (Zfq u c),List.replicate c.2.length 0,0,false)=some (t,c.2,0,false,u.1,u.2.1,u.2.2.1,u.2.2.2,t,l,c.2,st,endV u t l st c):=by
  unfold Zke
  rw [hF]
  exact q.1
 have L2:Zkf (t,(c.2.length:Int),0,0,false,u.1,u.2.1,u.2.2.1,u.2.2.2,t,l,c.2,st,(endV u t l st c).1,(endV u t l st c).2.1,(endV u t l st c).2.2.1,(endV u t l st c).2.2.2,[],[],[]) =
   some (0,false,u.1,u.2.1,u.2.2.1,u.2.2.2,t,l,c.2,st,(endV u t l st c).1,(endV u t l st c).2.1,(endV u t l st c).2.2.1,(endV u t l st c).2.2.2,gatE u t l st c):=by
  unfold Zkf
  exact ga
 have L3:ZgR (t,l,c.2,u.1,u.2.1,u.2.2.1,u.2.2.2,0,false,st,(List.replicate c.2.length ((false,[],[],[],0,0):E)).set (Int.toNat 0) (Zfq u c),List.replicate c.2.length 0,0,false)=some (t,l,c.2,u.1,u.2.1,u.2.2.1,u.2.2.2,0,false,st,endV u t l st c):=by
  unfold ZgR
  rw [hF]
  exact q.2.1
 have L4:ZgS (t,l,c.2,0,u.1,u.2.1,u.2.2.1,u.2.2.2,0,false,st,(endV u t l st c).1,(endV u t l st c).2.1,(endV u t l st c).2.2.1,(endV u t l st c).2.2.2,[],[],[]) =
   some (0,false,st,(endV u t l st c).1,(endV u t l st c).2.1,(endV u t l st c).2.2.1,(endV u t l st c).2.2.2,gatE u t l st c):=by
  unfold ZgS
  exact gb.1
 refine ⟨?_,?_,vE,gb.2⟩
 ·unfold Zrb
  simp only [e0,hc,m1,m2,cond_true,Zb,ZBU,s1,ZpK,f1,Int.toNat_natCast,r0,L1,L2]
  rfl
 ·unfold ZpZ
  simp only [e0,hc,m1,m2,cond_true,Zb,Zy2,s2,ZlN,f2,Int.toNat_natCast,r0,L3,L4]
  rfl
end
end
theorem Z0Z (u:U) (hu:unitOK u):(allN u).length≤3000:=by
 have h1:=hu.g
 have h2:=hu.a
 have h3:=hu.t
 have a:=ZqG (g:=numD) (k:=2) (fun d=>Nat.le_refl _) u.2.1
 have la:∀ a:A,(numA a).length≤3:=fun a=>by unfold numA;cases a.1==1<;>simp
 have b:∀ (r:List C),(∀ c∈r,c.2.length≤60)→(r.flatMap numC).length≤180*r.length:=by
  intro r
  induction r with
  | nil=>simp
  | cons c r ih=>
   intro h
   have h0:=h c (by simp)
   have:=ih fun c hc=>h c (by simp [hc])
   have:=ZqG la c.2
   rw [List.flatMap_cons,List.length_append,List.length_cons]
   unfold numC at *
   omega
 have b:=b u.2.2.2 fun c hc=>(hu.ts c hc).n.2
 unfold allN
 simp only [List.length_append]
 omega
theorem ZZq (u:U) (hu:unitOK u):(ZJ u).length≤4000:=by
 rw [ZG5]
 have:=ZNz (allN u) [-1,0,1]
 have:=Z0Z u hu
 simp only [List.length_cons,List.length_nil] at *
 omega
theorem ZuY {u:U} {t:Int} {l:List En} {c:C} (hu:unitOK u) (ht:0≤t) (hl:tabOK l) (hn:l.length≤1000) (hc:u.2.2.2[t.toNat]? = some c) :
  Zrb u t l=some (resV u t l (ZJ u) c)∧ZpZ u t l=some (resV u t l (ZJ u) c)∧Inv u t c.2.length (endV u t l (ZJ u) c).1 (endV u t l (ZJ u) c).2.1∧GInv c.2.length (gatE u t l (ZJ u) c):=
 Z28 hu ht hl hn (by have:=ZZq u hu;omega) hc (ZVI u hu) (ZUn u hu)
def u14:U:=([],[],0,[(0,[(12,0,0,0,0,0,0,1,0),(14,0,0,0,0,0,0,1,0)])])
theorem Z43:unitOK u14:=by
 obtain ⟨b,h1,h2⟩:=Zed u14 0 [] ⟨by decide,by decide,by decide,fun c hc=>by
  rw [List.mem_singleton.1 hc];decide⟩ (by decide)
 have h3:ZlT u14 0 []=some true:=by kernel_rfl
 rw [h3] at h1
 exact (h2 (Option.some.inj h1).symm).hu
theorem Z5a:tabOK []:=⟨(fun x k=>nomatch k),(fun i a b h=>by simp at h)⟩
theorem ZyT:Zqi=some true:=by
 have h:=(ZuY (u:=u14) (t:=0) (l:=[]) (c:=(0,[(12,0,0,0,0,0,0,1,0),(14,0,0,0,0,0,0,1,0)])) Z43 (by decide) Z5a (by decide) rfl).1
 unfold Zqi
 show optC (Zrb u14 0 []) none _=_
 rw [h]
 kernel_rfl
def goodE (e:E):Prop:=ZEZ e∧okB e.2.2.2.2.1∧okB e.2.2.2.2.2
structure moreO (x y:O):Prop where
 nx:leO x.1 y.1
 el:leO x.2.1 y.2.1
 al:∀ z∈x.2.2.1,z∈y.2.2.1
 st:x.2.2.2.1.length≤y.2.2.2.1.length
 ac:x.2.2.2.2.length≤y.2.2.2.2.length
 g1:goodE x.1
 g2:goodE x.2.1
 g3:goodE y.1
 g4:goodE y.2.1
 la:x.2.2.1.length≤100∧y.2.2.1.length≤100
 aln:x.2.2.1.length≤y.2.2.1.length
section
open Go.Proofs
structure AcInv (es:List E) (t i:Int) (L:List Ac):Prop where
 ent:∀ a∈L,a.1=t∧0≤a.2.1∧a.2.1<i∧∃ e,es[a.2.1.toNat]? = some e∧e.1=true∧a.2.2.2.2.2=e.2.2.2.2.1
 up:L.Pairwise fun a b=>a.2.1≤b.2.1
structure AlInv (es:List E) (t i:Int) (L:List Al):Prop where
 ent:∀ a∈L,a.1=1∧a.2.1=t∧0≤a.2.2.1∧a.2.2.1<i∧(∃ e,es[a.2.2.1.toNat]? = some e∧e.1=true)∧a.2.2.2.1≠0
 up:L.Pairwise fun a b=>a.2.2.1≤b.2.2.1
section
variable {u:U} {t:Int} {l:List En} {st:List Int} {c:C}
end
end
section
open Go.Proofs
structure mo (x y:O):Prop where
 nx:leO x.1 y.1
 el:leO x.2.1 y.2.1
 al:x.2.2.1.length≤y.2.2.1.length
 ac:x.2.2.2.2.length≤y.2.2.2.2.length
section
variable {u:U} {t:Int} {l l':List En} {st:List Int} {c:C}
end
end
theorem ZLc {u:U} {t:Int} (h:0≤t∧t<(u.2.2.2.length:Int)):∃ c,u.2.2.2[t.toNat]? = some c:=⟨u.2.2.2[t.toNat]'(by omega),List.getElem?_eq_getElem _⟩
section
section
variable [RT]
theorem Z5l {sh:List Sh} {G:Ht sh→Option Bool} {args:List AV} {x:Ht sh} (h1:rds sh args=some x) (h2:AV.idsL args=[]) (h3:G x=some true) :
  ∃ fb,ex ((conP true sh (.dat .bool) G args).bind (finP true)) false ⟨[],0⟩ ⟨[],[]⟩=some (.bool true,⟨[],0⟩,fb):=by
 refine ⟨⟨[],[]⟩,?_⟩
 unfold ex conP
 rw [Zv1 true args _ h2,h1]
 simp only [Prog.bind,run,Option.bind_some]
 exact (congrArg (fun o=>Option.bind o _) h3).trans (ZRm _ rfl _ _ _)
end
end
theorem Zz7:reachBytes<9223372036854775807:=by decide
theorem Z5E {e:Ty} {l:List (D e)} (h:ZrD reachBytes (.sl e) l):List.length (α:=D e) l<9223372036854775807:=Nat.lt_of_le_of_lt h.1 Zz7
theorem Z48 {u:U} (h:ZrD reachBytes tU u):sizeU u:=
 ⟨Nat.lt_of_le_of_lt h.1.1 Zz7,Nat.lt_of_le_of_lt h.2.1.1 Zz7,Nat.lt_of_le_of_lt h.2.2.2.1 Zz7,fun c hc=>Nat.lt_of_le_of_lt (h.2.2.2.2 c hc).2.1 Zz7⟩
end
end Go.Proofs.YtbdcblpjemmipaaGreat.Ex
