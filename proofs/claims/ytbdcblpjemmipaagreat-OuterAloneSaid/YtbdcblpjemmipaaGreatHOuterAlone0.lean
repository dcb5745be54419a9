/- A part of the proofs of what is known of threads: HOuterAlone0. -/
import Derived.Test.YtbdcblpjemmipaaGreatHA
import Derived.Test.YtbdcblpjemmipaaGreatHC
import Derived.Test.YtbdcblpjemmipaaGreatHF
import Derived.Test.YtbdcblpjemmipaaGreatHE
import Derived.Test.YtbdcblpjemmipaaGreatHG
import Derived.Test.YtbdcblpjemmipaaGreatHH
import Derived.Test.YtbdcblpjemmipaaGreatHD
import Derived.Test.YtbdcblpjemmipaaGreatHI
import Derived.Test.YtbdcblpjemmipaaGreatHB
namespace Go.Proofs.YtbdcblpjemmipaaGreat.Ex
open Go.Proofs
set_option maxRecDepth 100000
set_option maxHeartbeats 4000000
set_option linter.unusedVariables false
set_option linter.unusedSimpArgs false
set_option linter.unusedSectionVars false
noncomputable section
open Tryz (prog)
open IntKind (i64)
section
theorem ZHI (x y:I):leqB x (Zg x y)=true:=by
 simp only [leqB,Zg,Zd,nn,mn,mx,Bool.or_eq_true,Bool.and_eq_true,decide_eq_true_eq]
 (repeat' split)<;>simp_all<;>(try (repeat' split))<;>omega
theorem KH {x y z:I} (h:leqB x y=true) (k:leqB y z=true):leqB x z=true:=by
 rw [QE] at *;unfold sub at *;omega
theorem ZXa (x y:I):leqB y (Zg x y)=true:=by rw [Zfb];exact ZHI y x
end
abbrev tRR:Ty:=(.st (.pair (.sl tR) (.pair (.sl tEn) (.pair (.int .i64) .bool))))
abbrev RRe:=List Re×List En×Int×Bool
def ZQz:List Sh:=[.dat (.int .i64)]
def Zg4:=conP true ZQz (.dat .bool) Zo
theorem Zlr:Zf prog 31 Zg4:=Ze (calU [] [] 40 1048576 8 31) true (by rfl) (by rfl) (fun x r e=>(Zk _ _ _ _ _ _ _).trans ((show _=Zo x by kernel_rfl).trans e)) (.inl rfl)
def ZR2:List Sh:=[.dat (.sl (.int .i64)),.dat (.int .i64)]
def Zw9:Nat→List Nat:=fun c=>bif c.beq 0 then [0,1,5] else [0,1,5]
def ZKQ:List Con:=[⟨31,Zg4,Zlr⟩]
def Zjb:StS:=⟨[(0,.sl (.int .i64)),(1,.int .i64),(5,.int .i64)],[],0⟩
def Zb0:StS:=⟨[(0,.sl (.int .i64)),(1,.int .i64),(5,.int .i64)],[],0⟩
def ZHt:StD Zjb→ZaX:=fun ((a,b,c,_),_)=>(a,b,c)
def ZIT:ZaX→StD Zjb:=fun (a,b,c)=>((a,b,c,()),())
def ZYe:StD Zb0→KM:=fun ((a,b,c,_),_)=>(a,b,c)
def Zlg:KM→StD Zb0:=fun (a,b,c)=>((a,b,c,()),())
def Zy6:Nat→Tm→Prog (Nat×Tm):=(varP 0 (fun T h=>(rdS Zjb T h).map ZHt) Zi1 (altE 2 Zb0 Zlg) (fun _ _=>.fail))
def ZLs:Lpc:=⟨82,0,51,(fun base T=>.norm base (Zw9 0) T (Zy6 base)),by kernel_rfl,by kernel_rfl,(loopU ZKQ [] 40 1048576 8 (keep:=Zw9) (q:=Zy6) (by kernel_rfl) (Zv (s:=Zjb) (un:=ZIT) (by rfl) (fun _=>rfl) (Zn (s:=Zb0) (un:=Zlg) (flat:=ZYe) (by rfl) (fun _=>rfl)) (step:=Zum) (fun _=>by kernel_rfl) (fun _ _ e=>⟨_,e⟩) (Zm 2 Zb0 Zlg) (ZB.fail _ _)))⟩
def ZHh:=conP true ZR2 (.dat (.sl (.int .i64))) KP
theorem ZTK:Zf prog 82 ZHh:=Ze (calU ZKQ [ZLs] 40 1048576 8 82) true (by rfl) (by rfl) (fun x r e=>(Zk _ _ _ _ _ _ _).trans ((show _=KP x by kernel_rfl).trans e)) (.inl rfl)
def ZEH:List Sh:=[]
def ZKn:Option I:=some (1,0)
theorem ZQM:evGX (cxU [] [] 40 1048576) keeps 8 95 ZEH (.dat tI) (():Unit)=ZKn:=by kernel_rfl
def ZUy (x:Unit):Option I:=ZKn
def Vk:=conP true ZEH (.dat tI) ZUy
theorem Za3:Zf prog 95 Vk:=Ze (calU [] [] 40 1048576 8 95) true (by rfl) (by rfl) (fun x r e=>(Zk _ _ _ _ _ _ _).trans ((ZQM ).trans e)) (.inl rfl)
def ZNX:List Sh:=[.dat (.int .i64),.dat (.int .i64)]
def ZG3 (x:Int×(Int×Unit)):Option Bool:=Zqz x.1 x.2.1
def ZAw:=conP true ZNX (.dat .bool) ZG3
theorem ZOO:Zf prog 166 ZAw:=Ze (calU [] [] 40 1048576 8 166) true (by rfl) (by rfl) (fun x r e=>(Zk _ _ _ _ _ _ _).trans ((show _=ZG3 x by kernel_rfl).trans e)) (.inl rfl)
def ZNO:List Sh:=[.dat (.sl tEn),.dat (.int .i64),.dat .bool,.dat (.int .i64),.dat (.int .i64)]
def ZrJ:Nat→List Nat:=fun c=>bif c.beq 0 then [0,1,2,3,4,10,11,12] else [10,11]
def ZFh:List Con:=[⟨95,Vk,Za3⟩,⟨166,ZAw,ZOO⟩,⟨19,Kn,YD⟩]
def ZeS:StS:=⟨[(0,.sl tEn),(1,.int .i64),(2,.bool),(3,.int .i64),(4,.int .i64),(10,.ptr 0 0),(11,.ptr 1 0),(12,.int .i64)],[(0,.box [.int .i64,.int .i64]),(1,.box [.int .i64,.int .i64])],2⟩
def Vb:StS:=⟨[(10,.ptr 0 0),(11,.ptr 1 0)],[(0,.box [.int .i64,.int .i64]),(1,.box [.int .i64,.int .i64])],2⟩
def ZAI:StD ZeS→YR:=fun ((a,b,c,d,e,_,_,f,_),((g,h,_),(i,j,_),_))=>(a,b,c,d,e,f,g,h,i,j)
def ZB9:YR→StD ZeS:=fun (a,b,c,d,e,f,g,h,i,j)=>((a,b,c,d,e,(),(),f,()),((g,h,()),(i,j,()),()))
def ZUr:StD Vb→Q1:=fun ((_,_,_),((a,b,_),(c,d,_),_))=>(a,b,c,d)
def ZgS:Q1→StD Vb:=fun (a,b,c,d)=>(((),(),()),((a,b,()),(c,d,()),()))
def Zt8:Nat→Tm→Prog (Nat×Tm):=(varP 0 (fun T h=>(rdS ZeS T h).map ZAI) WL (altE 2 Vb ZgS) (fun _ _=>.fail))
def ZF1:Lpc:=⟨117,0,52,(fun base T=>.norm base (ZrJ 0) T (Zt8 base)),by kernel_rfl,by kernel_rfl,(loopU ZFh [] 40 1048576 8 (keep:=ZrJ) (q:=Zt8) (by kernel_rfl) (Zv (s:=ZeS) (un:=ZB9) (by rfl) (fun _=>rfl) (Zn (s:=Vb) (un:=ZgS) (flat:=ZUr) (by rfl) (fun _=>rfl)) (step:=ZpP) (fun _=>by kernel_rfl) (fun _ _ e=>⟨_,e⟩) (Zm 2 Vb ZgS) (ZB.fail _ _)))⟩
def Zsn:=conP true ZNO (.dat tI) Zji
theorem ZBI:Zf prog 117 Zsn:=Ze (calU ZFh [ZF1] 40 1048576 8 117) true (by rfl) (by rfl) (fun x r e=>(Zk _ _ _ _ _ _ _).trans ((show _=Zji x by kernel_rfl).trans e)) (.inl rfl)
def ZRZ:List Sh:=[.dat (.int .i64),.dat (.int .i64)]
def Zqg:=conP true ZRZ (.dat .bool) YE
theorem ZxR:Zf prog 119 Zqg:=Ze (calU [] [] 40 1048576 8 119) true (by rfl) (by rfl) (fun x r e=>(Zk _ _ _ _ _ _ _).trans ((show _=YE x by kernel_rfl).trans e)) (.inl rfl)
def ZK3:List Sh:=[.dat (.sl tEn),.dat (.int .i64),.dat .bool,.dat (.int .i64),.dat (.int .i64),.dat (.int .i64)]
def Zjy:Nat→List Nat:=fun c=>bif c.beq 0 then [0,1,2,3,4,5,12,13,14] else [1,2,3,4,12,13]
def Zze:List Con:=[⟨119,Zqg,ZxR⟩,⟨117,Zsn,ZBI⟩]
def Zct:StS:=⟨[(0,.sl tEn),(1,.int .i64),(2,.bool),(3,.int .i64),(4,.int .i64),(5,.int .i64),(12,.ptr 0 0),(13,.row 1),(14,.int .i64)],[(0,.box [.int .i64,.int .i64]),(1,.row tEn)],2⟩
def Yw:StS:=⟨[(1,.int .i64),(2,.bool),(3,.int .i64),(4,.int .i64),(12,.ptr 0 0),(13,.row 1)],[(0,.box [.int .i64,.int .i64]),(1,.row tEn)],2⟩
def Zyi:StD Zct→KD:=fun ((a,b,c,d,e,f,_,_,g,_),((h,i,_),j,_))=>(a,b,c,d,e,f,g,h,i,j)
def Zyx:KD→StD Zct:=fun (a,b,c,d,e,f,g,h,i,j)=>((a,b,c,d,e,f,(),(),g,()),((h,i,()),j,()))
def ZRk:StD Yw→Qw:=fun ((a,b,c,d,_,_,_),((e,f,_),g,_))=>(a,b,c,d,e,f,g)
def Ze3:Qw→StD Yw:=fun (a,b,c,d,e,f,g)=>((a,b,c,d,(),(),()),((e,f,()),g,()))
def ZqQ:Nat→Tm→Prog (Nat×Tm):=(varP 0 (fun T h=>(rdS Zct T h).map Zyi) HP (altE 2 Yw Ze3) (fun _ _=>.fail))
def ZAX:Lpc:=⟨120,0,41,(ownP [] [(13,tEn)] (Zjy 0) (fun base T=>.norm base (Zjy 0) T (ZqQ base))),by kernel_rfl,by kernel_rfl,(Ja (loopU Zze [] 40 1048576 8 (keep:=Zjy) (q:=ZqQ) (by kernel_rfl) (Zv (s:=Zct) (un:=Zyx) (by rfl) (fun _=>rfl) (Zn (s:=Yw) (un:=Ze3) (flat:=ZRk) (by rfl) (fun _=>rfl)) (step:=Zn0) (fun _=>by kernel_rfl) (fun _ _ e=>⟨_,e⟩) (Zm 2 Yw Ze3) (ZB.fail _ _))))⟩
def ZwK:=conP true ZK3 (.dat tI) Kz
theorem ZLO:Zf prog 120 ZwK:=Ze (calU Zze [ZAX] 40 1048576 8 120) true (by rfl) (by rfl) (fun x r e=>(Zk _ _ _ _ _ _ _).trans ((show _=Kz x by kernel_rfl).trans e)) (.inl rfl)
def ZUK:List Sh:=[.dat (.int .i64),.dat (.int .i64)]
def Zs7:=conP true ZUK (.dat .bool) Zi
theorem Zz7:Zf prog 100 Zs7:=Ze (calU [] [] 40 1048576 8 100) true (by rfl) (by rfl) (fun x r e=>(Zk _ _ _ _ _ _ _).trans ((show _=Zi x by kernel_rfl).trans e)) (.inl rfl)
def ZQF:List Sh:=[.dat (.int .i64),.dat (.int .i64)]
def ZtV:Nat→List Nat:=fun c=>bif c.beq 0 then [5,6,7] else [4]
def Zgv:StS:=⟨[(5,.str),(6,.int .u8),(7,.int .i64)],[],0⟩
def Wz:StS:=⟨[(4,.undef)],[],0⟩
def WA:StS:=⟨[(4,.bool)],[],0⟩
def ZCS:StD Zgv→Zbz:=fun ((a,b,c,_),_)=>(a,b,c)
def ZEC:Zbz→StD Zgv:=fun (a,b,c)=>((a,b,c,()),())
def ZVn (d:StD Wz):ZdA:=()
def ZiY (x:ZdA):StD Wz:=(((),()),())
def ZVo (d:StD WA):ZdB:=(d.1.1)
def ZiZ (x:ZdB):StD WA:=((x,()),())
def ZvF:Nat→Tm→Prog (Nat×Tm):=(varP 0 (fun T h=>(rdS Zgv T h).map ZCS) Zrx (fun y=>.alt y (altE 2 Wz ZiY) (altE 1 WA ZiZ)) (fun _ _=>.fail))
def ZH0:Lpc:=⟨180,0,25,(fun base T=>.norm base (ZtV 0) T (ZvF base)),by kernel_rfl,by kernel_rfl,(loopU [] [] 40 1048576 8 (keep:=ZtV) (q:=ZvF) (by kernel_rfl) (Zv (s:=Zgv) (un:=ZEC) (by rfl) (fun _=>rfl) (ZW (Zn (s:=Wz) (un:=ZiY) (flat:=ZVn) (by rfl) (fun _=>rfl)) (Zn (s:=WA) (un:=ZiZ) (flat:=ZVo) (by rfl) (fun _=>rfl))) (step:=Zro) (fun _=>by kernel_rfl) (fun _ _ e=>⟨_,e⟩) (ZV (Zm 2 Wz ZiY) (Zm 1 WA ZiZ)) (ZB.fail _ _)))⟩
def ZET:=conP true ZQF (.dat .bool) Zs3
theorem ZQ1:Zf prog 180 ZET:=Ze (calU [] [ZH0] 40 1048576 8 180) true (by rfl) (by rfl) (fun x r e=>(Zk _ _ _ _ _ _ _).trans ((show _=Zs3 x by kernel_rfl).trans e)) (.inl rfl)
def ZR1:List Sh:=[.dat (.int .i64),.dat (.int .i64),.dat (.int .i64),.dat (.int .i64)]
def ZV4:List Con:=[⟨180,ZET,ZQ1⟩,⟨100,Zs7,Zz7⟩]
def ZHg:=conP true ZR1 (.dat .bool) Zc
theorem ZTJ:Zf prog 141 ZHg:=Ze (calU ZV4 [] 40 1048576 8 141) true (by rfl) (by rfl) (fun x r e=>(Zk _ _ _ _ _ _ _).trans ((show _=Zc x by kernel_rfl).trans e)) (.inl rfl)
def ZR0:List Sh:=[.dat tU,.dat tC,.dat tA]
def ZV3:List Con:=[⟨31,Zg4,Zlr⟩,⟨100,Zs7,Zz7⟩,⟨141,ZHg,ZTJ⟩]
def ZHf:=conP true ZR0 (.dat .bool) Zp4
theorem ZTI:Zf prog 101 ZHf:=Ze (calU ZV3 [] 40 1048576 8 101) true (by rfl) (by rfl) (fun x r e=>(Zk _ _ _ _ _ _ _).trans ((show _=Zp4 x by kernel_rfl).trans e)) (.inl rfl)
def ZUJ:List Sh:=[.dat tU]
def ZyW:Nat→List Nat:=fun c=>bif c.beq 0 then [1,3] else [1,2]
def ZyX:Nat→List Nat:=fun c=>bif c.beq 0 then [1,4] else [1,2]
def ZyZ:Nat→List Nat:=fun c=>bif c.beq 0 then [1,5,6,7,8] else [1,2,5]
def ZyY:Nat→List Nat:=fun c=>bif c.beq 0 then [1,5] else [2]
def Zib:List Con:=[⟨100,Zs7,Zz7⟩,⟨31,Zg4,Zlr⟩,⟨101,ZHf,ZTI⟩]
abbrev zh0:List (Nat×BSh):=[(0,.box [.sl (.int .i64),.sl (.int .i64),.int .i64,.sl tC])]
def Zk0:StS:=⟨[(1,.ptr 0 0),(3,.int .i64)],zh0,1⟩
def Zdc:StS:=⟨[(1,.ptr 0 0),(2,.undef)],zh0,1⟩
def Zdd:StS:=⟨[(1,.ptr 0 0),(2,.bool)],zh0,1⟩
def ZJs:StD Zk0→Zb5:=fun ((_,a,_),((b,c,d,e,_),_))=>(a,b,c,d,e)
def ZJ5:Zb5→StD Zk0:=fun (a,b,c,d,e)=>(((),a,()),((b,c,d,e,()),()))
def ZY5:StD Zdc→Yh:=fun ((_,_,_),((a,b,c,d,_),_))=>(a,b,c,d)
def Zmk:Yh→StD Zdc:=fun (a,b,c,d)=>(((),(),()),((a,b,c,d,()),()))
def ZY6:StD Zdd→Yi:=fun ((_,a,_),((b,c,d,e,_),_))=>(a,b,c,d,e)
def Zml:Yi→StD Zdd:=fun (a,b,c,d,e)=>(((),a,()),((b,c,d,e,()),()))
def ZA8:Nat→Tm→Prog (Nat×Tm):=(varP 0 (fun T h=>(rdS Zk0 T h).map ZJs) Zfs (fun y=>.alt y (altE 2 Zdc Zmk) (altE 1 Zdd Zml)) (fun _ _=>.fail))
def WZ:Lpc:=⟨64,0,123,(fun base T=>.norm base (ZyW 0) T (ZA8 base)),by kernel_rfl,by kernel_rfl,(loopU Zib [] 40 1048576 8 (keep:=ZyW) (q:=ZA8) (by kernel_rfl) (Zv (s:=Zk0) (un:=ZJ5) (by rfl) (fun _=>rfl) (ZW (Zn (s:=Zdc) (un:=Zmk) (flat:=ZY5) (by rfl) (fun _=>rfl)) (Zn (s:=Zdd) (un:=Zml) (flat:=ZY6) (by rfl) (fun _=>rfl))) (step:=ZvJ) (fun _=>by kernel_rfl) (fun _ _ e=>⟨_,e⟩) (ZV (Zm 2 Zdc Zmk) (Zm 1 Zdd Zml)) (ZB.fail _ _)))⟩
abbrev Z2t:=cxU Zib [WZ] 40 1048576
def Zk1:StS:=⟨[(1,.ptr 0 0),(4,.int .i64)],zh0,1⟩
def Zde:StS:=⟨[(1,.ptr 0 0),(2,.undef)],zh0,1⟩
def Zdf:StS:=⟨[(1,.ptr 0 0),(2,.bool)],zh0,1⟩
def ZJt:StD Zk1→Zb6:=fun ((_,a,_),((b,c,d,e,_),_))=>(a,b,c,d,e)
def ZJ6:Zb6→StD Zk1:=fun (a,b,c,d,e)=>(((),a,()),((b,c,d,e,()),()))
def ZY7:StD Zde→Yj:=fun ((_,_,_),((a,b,c,d,_),_))=>(a,b,c,d)
def Zmm:Yj→StD Zde:=fun (a,b,c,d)=>(((),(),()),((a,b,c,d,()),()))
def ZY8:StD Zdf→Yk:=fun ((_,a,_),((b,c,d,e,_),_))=>(a,b,c,d,e)
def Zmn:Yk→StD Zdf:=fun (a,b,c,d,e)=>(((),a,()),((b,c,d,e,()),()))
def ZA9:Nat→Tm→Prog (Nat×Tm):=(varP 0 (fun T h=>(rdS Zk1 T h).map ZJt) Zft (fun y=>.alt y (altE 4 Zde Zmm) (altE 1 Zdf Zmn)) (fun _ _=>.fail))
def ZhI:Lpc:=⟨64,2,123,(fun base T=>.norm base (ZyX 0) T (ZA9 base)),by kernel_rfl,by kernel_rfl,(loopU Zib [WZ] 40 1048576 8 (keep:=ZyX) (q:=ZA9) (by kernel_rfl) (Zv (s:=Zk1) (un:=ZJ6) (by rfl) (fun _=>rfl) (ZW (Zn (s:=Zde) (un:=Zmm) (flat:=ZY7) (by rfl) (fun _=>rfl)) (Zn (s:=Zdf) (un:=Zmn) (flat:=ZY8) (by rfl) (fun _=>rfl))) (step:=ZvK) (fun _=>by kernel_rfl) (fun _ _ e=>⟨_,e⟩) (ZV (Zm 4 Zde Zmm) (Zm 1 Zdf Zmn)) (ZB.fail _ _)))⟩
abbrev Z2v:=cxU Zib [WZ,ZhI] 40 1048576
def Zk3:StS:=⟨[(1,.ptr 0 0),(5,.int .i64),(6,.ptr 1 0),(7,.int .i64),(8,.int .i64)],[(0,.box [.sl (.int .i64),.sl (.int .i64),.int .i64,.sl tC]),(1,.box [.int .i64,.sl tA])],2⟩
def Zdi:StS:=⟨[(1,.ptr 0 0),(2,.undef),(5,.int .i64)],zh0,1⟩
def Zdj:StS:=⟨[(1,.ptr 0 0),(2,.bool),(5,.int .i64)],zh0,1⟩
def ZJv:StD Zk3→Zb7:=fun ((_,a,_,b,c,_),((d,e,f,g,_),(h,i,_),_))=>(a,b,c,d,e,f,g,h,i)
def ZJ8:Zb7→StD Zk3:=fun (a,b,c,d,e,f,g,h,i)=>(((),a,(),b,c,()),((d,e,f,g,()),(h,i,()),()))
def ZZb:StD Zdi→Yl:=fun ((_,_,a,_),((b,c,d,e,_),_))=>(a,b,c,d,e)
def Zmq:Yl→StD Zdi:=fun (a,b,c,d,e)=>(((),(),a,()),((b,c,d,e,()),()))
def ZZc:StD Zdj→Ym:=fun ((_,a,b,_),((c,d,e,f,_),_))=>(a,b,c,d,e,f)
def Zmr:Ym→StD Zdj:=fun (a,b,c,d,e,f)=>(((),a,b,()),((c,d,e,f,()),()))
def ZBb:Nat→Tm→Prog (Nat×Tm):=(varP 0 (fun T h=>(rdS Zk3 T h).map ZJv) Zb2 (fun y=>.alt y (altE 8 Zdi Zmq) (altE 1 Zdj Zmr)) (fun _ _=>.fail))
def ZqK:Lpc:=⟨64,6,123,(fun base T=>.norm base (ZyZ 0) T (ZBb base)),by kernel_rfl,by kernel_rfl,(loopU Zib [WZ,ZhI] 40 1048576 8 (keep:=ZyZ) (q:=ZBb) (by kernel_rfl) (Zv (s:=Zk3) (un:=ZJ8) (by rfl) (fun _=>rfl) (ZW (Zn (s:=Zdi) (un:=Zmq) (flat:=ZZb) (by rfl) (fun _=>rfl)) (Zn (s:=Zdj) (un:=Zmr) (flat:=ZZc) (by rfl) (fun _=>rfl))) (step:=ZvM) (fun _=>by kernel_rfl) (fun _ _ e=>⟨_,e⟩) (ZV (Zm 8 Zdi Zmq) (Zm 1 Zdj Zmr)) (ZB.fail _ _)))⟩
abbrev Z2u:=cxU Zib [WZ,ZhI,ZqK] 40 1048576
def Zk2:StS:=⟨[(1,.ptr 0 0),(5,.int .i64)],zh0,1⟩
def Zdg:StS:=⟨[(2,.undef)],[],0⟩
def Zdh:StS:=⟨[(2,.bool)],[],0⟩
def ZJu:StD Zk2→Zfy:=fun ((_,a,_),((b,c,d,e,_),_))=>(a,b,c,d,e)
def ZJ7:Zfy→StD Zk2:=fun (a,b,c,d,e)=>(((),a,()),((b,c,d,e,()),()))
def ZY9 (d:StD Zdg):Zhw:=()
def Zmo (x:Zhw):StD Zdg:=(((),()),())
def ZZa (d:StD Zdh):Zhx:=(d.1.1)
def Zmp (x:Zhx):StD Zdh:=((x,()),())
def ZBa:Nat→Tm→Prog (Nat×Tm):=(varP 0 (fun T h=>(rdS Zk2 T h).map ZJu) Zfu (fun y=>.alt y (altE 6 Zdg Zmo) (altE 1 Zdh Zmp)) (fun _ _=>.fail))
def ZMA:Lpc:=⟨64,4,123,(fun base T=>.norm base (ZyY 0) T (ZBa base)),by kernel_rfl,by kernel_rfl,(loopU Zib [WZ,ZhI,ZqK] 40 1048576 8 (keep:=ZyY) (q:=ZBa) (by kernel_rfl) (Zv (s:=Zk2) (un:=ZJ7) (by rfl) (fun _=>rfl) (ZW (Zn (s:=Zdg) (un:=Zmo) (flat:=ZY9) (by rfl) (fun _=>rfl)) (Zn (s:=Zdh) (un:=Zmp) (flat:=ZZa) (by rfl) (fun _=>rfl))) (step:=ZvL) (fun _=>by kernel_rfl) (fun _ _ e=>⟨_,e⟩) (ZV (Zm 6 Zdg Zmo) (Zm 1 Zdh Zmp)) (ZB.fail _ _)))⟩
def Zzv:=conP true ZUJ (.dat .bool) Zpm
theorem ZKH:Zf prog 64 Zzv:=Ze (calU Zib [WZ,ZhI,ZqK,ZMA] 40 1048576 8 64) true (by rfl) (by rfl) (fun x r e=>(Zk _ _ _ _ _ _ _).trans ((show _=Zpm x by kernel_rfl).trans e)) (.inl rfl)
def ZQw:List Sh:=[.dat tEn]
def ZEQ:=conP true ZQw (.dat (.int .i64)) Zot
theorem ZQY:Zf prog 96 ZEQ:=Ze (calU [] [] 40 1048576 8 96) true (by rfl) (by rfl) (fun x r e=>(Zk _ _ _ _ _ _ _).trans ((show _=Zot x by kernel_rfl).trans e)) (.inl rfl)
def ZL4:List Sh:=[.dat tEn,.dat tEn]
def ZrL:Nat→List Nat:=fun c=>bif c.beq 0 then [5,6,7] else [4]
def ZBR:List Con:=[⟨96,ZEQ,ZQY⟩]
def ZeU:StS:=⟨[(5,.row 0),(6,.row 1),(7,.int .i64)],[(0,.row (.int .i64)),(1,.row (.int .i64))],2⟩
def Vd:StS:=⟨[(4,.undef)],[],0⟩
def Ve:StS:=⟨[(4,.int .i64)],[],0⟩
def ZAK:StD ZeU→WQ:=fun ((_,_,a,_),(b,c,_))=>(a,b,c)
def ZCb:WQ→StD ZeU:=fun (a,b,c)=>(((),(),a,()),(b,c,()))
def ZUt (d:StD Vd):Zcj:=()
def ZgU (x:Zcj):StD Vd:=(((),()),())
def ZUu (d:StD Ve):Zck:=(d.1.1)
def ZgV (x:Zck):StD Ve:=((x,()),())
def Zua:Nat→Tm→Prog (Nat×Tm):=(varP 0 (fun T h=>(rdS ZeU T h).map ZAK) Zef (fun y=>.alt y (altE 2 Vd ZgU) (altE 1 Ve ZgV)) (fun _ _=>.fail))
def ZF3:Lpc:=⟨61,0,48,(fun base T=>.norm base (ZrL 0) T (Zua base)),by kernel_rfl,by kernel_rfl,(loopU ZBR [] 40 1048576 8 (keep:=ZrL) (q:=Zua) (by kernel_rfl) (Zv (s:=ZeU) (un:=ZCb) (by rfl) (fun _=>rfl) (ZW (Zn (s:=Vd) (un:=ZgU) (flat:=ZUt) (by rfl) (fun _=>rfl)) (Zn (s:=Ve) (un:=ZgV) (flat:=ZUu) (by rfl) (fun _=>rfl))) (step:=K8) (fun _=>by kernel_rfl) (fun _ _ e=>⟨_,e⟩) (ZV (Zm 2 Vd ZgU) (Zm 1 Ve ZgV)) (ZB.fail _ _)))⟩
def Zqd:=conP true ZL4 (.dat (.int .i64)) Jd
theorem Zzb:Zf prog 61 Zqd:=Ze (calU ZBR [ZF3] 40 1048576 8 61) true (by rfl) (by rfl) (fun x r e=>(Zk _ _ _ _ _ _ _).trans ((show _=Jd x by kernel_rfl).trans e)) (.inl rfl)
def ZQE:List Sh:=[.dat (.int .i64),.dat (.sl (.int .i64))]
def ZtQ:Nat→List Nat:=fun c=>bif c.beq 0 then [0,1,5] else [0]
def Zgn:StS:=⟨[(0,.int .i64),(1,.sl (.int .i64)),(5,.int .i64)],[],0⟩
def Wr:StS:=⟨[(0,.int .i64)],[],0⟩
def ZCK:StD Zgn→HA:=fun ((a,b,c,_),_)=>(a,b,c)
def ZEu:HA→StD Zgn:=fun (a,b,c)=>((a,b,c,()),())
def ZVf (d:StD Wr):JC:=(d.1.1)
def ZiQ (x:JC):StD Wr:=((x,()),())
def Zvy:Nat→Tm→Prog (Nat×Tm):=(varP 0 (fun T h=>(rdS Zgn T h).map ZCK) Zbk (altE 2 Wr ZiQ) (fun _ _=>.fail))
def ZHX:Lpc:=⟨121,0,33,(fun base T=>.norm base (ZtQ 0) T (Zvy base)),by kernel_rfl,by kernel_rfl,(loopU [] [] 40 1048576 8 (keep:=ZtQ) (q:=Zvy) (by kernel_rfl) (Zv (s:=Zgn) (un:=ZEu) (by rfl) (fun _=>rfl) (Zn (s:=Wr) (un:=ZiQ) (flat:=ZVf) (by rfl) (fun _=>rfl)) (step:=Zrk) (fun _=>by kernel_rfl) (fun _ _ e=>⟨_,e⟩) (Zm 2 Wr ZiQ) (ZB.fail _ _)))⟩
def ZES:=conP true ZQE (.dat (.int .i64)) Zie
theorem ZQ0:Zf prog 121 ZES:=Ze (calU [] [ZHX] 40 1048576 8 121) true (by rfl) (by rfl) (fun x r e=>(Zk _ _ _ _ _ _ _).trans ((show _=Zie x by kernel_rfl).trans e)) (.inl rfl)
def ZK7:List Sh:=[.dat (.int .i64),.dat (.sl (.int .i64))]
def Zpw:Nat→List Nat:=fun c=>bif c.beq 0 then [0,1,5] else [0]
def Zcv:StS:=⟨[(0,.int .i64),(1,.sl (.int .i64)),(5,.int .i64)],[],0⟩
def Yy:StS:=⟨[(0,.int .i64)],[],0⟩
def Zyk:StD Zcv→KF:=fun ((a,b,c,_),_)=>(a,b,c)
def Zyz:KF→StD Zcv:=fun (a,b,c)=>((a,b,c,()),())
def ZRm (d:StD Yy):Qx:=(d.1.1)
def Ze5 (x:Qx):StD Yy:=((x,()),())
def ZqS:Nat→Tm→Prog (Nat×Tm):=(varP 0 (fun T h=>(rdS Zcv T h).map Zyk) HR (altE 2 Yy Ze5) (fun _ _=>.fail))
def ZAZ:Lpc:=⟨122,0,33,(fun base T=>.norm base (Zpw 0) T (ZqS base)),by kernel_rfl,by kernel_rfl,(loopU [] [] 40 1048576 8 (keep:=Zpw) (q:=ZqS) (by kernel_rfl) (Zv (s:=Zcv) (un:=Zyz) (by rfl) (fun _=>rfl) (Zn (s:=Yy) (un:=Ze5) (flat:=ZRm) (by rfl) (fun _=>rfl)) (step:=Zn1) (fun _=>by kernel_rfl) (fun _ _ e=>⟨_,e⟩) (Zm 2 Yy Ze5) (ZB.fail _ _)))⟩
def ZwO:=conP true ZK7 (.dat (.int .i64)) Zb1
theorem ZLQ:Zf prog 122 ZwO:=Ze (calU [] [ZAZ] 40 1048576 8 122) true (by rfl) (by rfl) (fun x r e=>(Zk _ _ _ _ _ _ _).trans ((show _=Zb1 x by kernel_rfl).trans e)) (.inl rfl)
def ZRY:List Sh:=[.dat tI,.dat tI]
def ZV1:List Con:=[⟨95,Vk,Za3⟩]
def ZHe:=conP true ZRY (.dat tI) ZvV
theorem ZTH:Zf prog 165 ZHe:=Ze (calU ZV1 [] 40 1048576 8 165) true (by rfl) (by rfl) (fun x r e=>(Zk _ _ _ _ _ _ _).trans ((show _=ZvV x by kernel_rfl).trans e)) (.inl rfl)
def ZRU:List Sh:=[.dat tI,.dat (.int .i64)]
def ZHc:=conP true ZRU (.dat .bool) Zp2
theorem ZTF:Zf prog 164 ZHc:=Ze (calU [] [] 40 1048576 8 164) true (by rfl) (by rfl) (fun x r e=>(Zk _ _ _ _ _ _ _).trans ((show _=Zp2 x by kernel_rfl).trans e)) (.inl rfl)
def ZQD:List Sh:=[.dat (.int .i64),.dat (.int .i64)]
def ZT3:List Con:=[⟨95,Vk,Za3⟩]
def Zll:=conP true ZQD (.dat tI) Z3
theorem Zo3:Zf prog 167 Zll:=Ze (calU ZT3 [] 40 1048576 8 167) true (by rfl) (by rfl) (fun x r e=>(Zk _ _ _ _ _ _ _).trans ((show _=Z3 x by kernel_rfl).trans e)) (.inl rfl)
def ZQC:List Sh:=[.dat (.int .i64),.dat (.int .i64)]
def ZT2:List Con:=[⟨167,Zll,Zo3⟩]
def ZuB:=conP true ZQC (.tup [.dat tI,.dat .bool]) HO
theorem ZE8:Zf prog 161 ZuB:=Ze (calU ZT2 [] 40 1048576 8 161) true (by rfl) (by rfl) (fun x r e=>(Zk _ _ _ _ _ _ _).trans ((show _=HO x by kernel_rfl).trans e)) (.inl rfl)
def ZK6:List Sh:=[.dat tI,.dat tI,.dat .bool]
def Zpv:Nat→List Nat:=fun c=>bif c.beq 0 then [8,9,10,11] else [9,10]
def Zcu:StS:=⟨[(8,.row 0),(9,.int .i64),(10,.int .i64),(11,.int .i64)],[(0,.row (.int .i64))],1⟩
def Yx:StS:=⟨[(9,.int .i64),(10,.int .i64)],[],0⟩
def Zyj:StD Zcu→HS:=fun ((_,a,b,c,_),(d,_))=>(a,b,c,d)
def Zyy:HS→StD Zcu:=fun (a,b,c,d)=>(((),a,b,c,()),(d,()))
def ZRl (d:StD Yx):WR:=(d.1.1,d.1.2.1)
def Ze4 (x:WR):StD Yx:=((x.1,x.2,()),())
def ZqR:Nat→Tm→Prog (Nat×Tm):=(varP 0 (fun T h=>(rdS Zcu T h).map Zyj) HQ (altE 2 Yx Ze4) (fun _ _=>.fail))
def ZAY:Lpc:=⟨162,0,79,(fun base T=>.norm base (Zpv 0) T (ZqR base)),by kernel_rfl,by kernel_rfl,(loopU [] [] 40 1048576 8 (keep:=Zpv) (q:=ZqR) (by kernel_rfl) (Zv (s:=Zcu) (un:=Zyy) (by rfl) (fun _=>rfl) (Zn (s:=Yx) (un:=Ze4) (flat:=ZRl) (by rfl) (fun _=>rfl)) (step:=Y8) (fun _=>by kernel_rfl) (fun _ _ e=>⟨_,e⟩) (Zm 2 Yx Ze4) (ZB.fail _ _)))⟩
def Zpa:=conP true ZK6 (.tup [.dat (.int .i64),.dat (.int .i64)]) Zfh
theorem ZxQ:Zf prog 162 Zpa:=Ze (calU [] [ZAY] 40 1048576 8 162) true (by rfl) (by rfl) (fun x r e=>(Zk _ _ _ _ _ _ _).trans ((show _=Zfh x by kernel_rfl).trans e)) (.inl rfl)
def ZQB:List Sh:=[.dat tI,.dat tI]
def ZT1:List Con:=[⟨167,Zll,Zo3⟩]
def Zlk:=conP true ZQB (.dat tI) ZY
theorem Zo2:Zf prog 118 Zlk:=Ze (calU ZT1 [] 40 1048576 8 118) true (by rfl) (by rfl) (fun x r e=>(Zk _ _ _ _ _ _ _).trans ((show _=ZY x by kernel_rfl).trans e)) (.inl rfl)
def ZRX:List Sh:=[.dat tI,.dat tI]
def ZV0:List Con:=[⟨95,Vk,Za3⟩,⟨118,Zlk,Zo2⟩,⟨47,Qs,QP⟩,⟨162,Zpa,ZxQ⟩,⟨161,ZuB,ZE8⟩,⟨19,Kn,YD⟩]
def ZHd:=conP true ZRX (.tup [.dat tI,.dat .bool]) ZvU
theorem ZTG:Zf prog 163 ZHd:=Ze (calU ZV0 [] 40 1048576 8 163) true (by rfl) (by rfl) (fun x r e=>(Zk _ _ _ _ _ _ _).trans ((show _=ZvU x by kernel_rfl).trans e)) (.inl rfl)
def ZUH:List Sh:=[.dat (.int .i64),.dat tI,.dat tI]
def ZYT:List Con:=[⟨47,Qs,QP⟩,⟨95,Vk,Za3⟩,⟨161,ZuB,ZE8⟩,⟨162,Zpa,ZxQ⟩,⟨163,ZHd,ZTG⟩,⟨164,ZHc,ZTF⟩,⟨165,ZHe,ZTH⟩]
def ZKj:=conP true ZUH (.tup [.dat tI,.dat .bool,.dat .bool]) ZyD
theorem ZVO:Zf prog 116 ZKj:=Ze (calU ZYT [] 40 1048576 8 116) true (by rfl) (by rfl) (fun x r e=>(Zk _ _ _ _ _ _ _).trans ((show _=ZyD x by kernel_rfl).trans e)) (.inl rfl)
def ZNW:List Sh:=[.dat tI,.dat tI]
def ZRd:List Con:=[⟨167,Zll,Zo3⟩]
def ZAv:=conP true ZNW (.dat tI) ZmK
theorem ZON:Zf prog 168 ZAv:=Ze (calU ZRd [] 40 1048576 8 168) true (by rfl) (by rfl) (fun x r e=>(Zk _ _ _ _ _ _ _).trans ((show _=ZmK x by kernel_rfl).trans e)) (.inl rfl)
def ZL6:List Sh:=[.dat (.int .i64),.dat tI,.dat tI]
def ZOU:List Con:=[⟨47,Qs,QP⟩,⟨95,Vk,Za3⟩,⟨167,Zll,Zo3⟩,⟨118,Zlk,Zo2⟩,⟨168,ZAv,ZON⟩]
def ZyM:=conP true ZL6 (.tup [.dat tI,.dat tI]) Zli
theorem ZM8:Zf prog 123 ZyM:=Ze (calU ZOU [] 40 1048576 8 123) true (by rfl) (by rfl) (fun x r e=>(Zk _ _ _ _ _ _ _).trans ((show _=Zli x by kernel_rfl).trans e)) (.inl rfl)
def ZRV:List Sh:=[.dat tI,.dat tI]
def ZVY:List Con:=[⟨47,Qs,QP⟩]
def Zqf:=conP true ZRV (.dat .bool) JX
theorem ZxP:Zf prog 66 Zqf:=Ze (calU ZVY [] 40 1048576 8 66) true (by rfl) (by rfl) (fun x r e=>(Zk _ _ _ _ _ _ _).trans ((show _=JX x by kernel_rfl).trans e)) (.inl rfl)
def ZNM:List Sh:=[.dat (.sl tI),.dat (.sl tI)]
def ZtJ:Nat→List Nat:=fun c=>bif c.beq 0 then [0,1,5] else [4]
def Zge:StS:=⟨[(0,.sl tI),(1,.sl tI),(5,.int .i64)],[],0⟩
def Wd:StS:=⟨[(4,.undef)],[],0⟩
def We:StS:=⟨[(4,.bool)],[],0⟩
def ZCB:StD Zge→Hv:=fun ((a,b,c,_),_)=>(a,b,c)
def ZEl:Hv→StD Zge:=fun (a,b,c)=>((a,b,c,()),())
def ZU1 (d:StD Wd):Js:=()
def ZiC (x:Js):StD Wd:=(((),()),())
def ZU2 (d:StD We):Jt:=(d.1.1)
def ZiD (x:Jt):StD We:=((x,()),())
def Zvr:Nat→Tm→Prog (Nat×Tm):=(varP 0 (fun T h=>(rdS Zge T h).map ZCB) ZfN (fun y=>.alt y (altE 2 Wd ZiC) (altE 1 We ZiD)) (fun _ _=>.fail))
def ZHT:Lpc:=⟨76,0,26,(fun base T=>.norm base (ZtJ 0) T (Zvr base)),by kernel_rfl,by kernel_rfl,(loopU [] [] 40 1048576 8 (keep:=ZtJ) (q:=Zvr) (by kernel_rfl) (Zv (s:=Zge) (un:=ZEl) (by rfl) (fun _=>rfl) (ZW (Zn (s:=Wd) (un:=ZiC) (flat:=ZU1) (by rfl) (fun _=>rfl)) (Zn (s:=We) (un:=ZiD) (flat:=ZU2) (by rfl) (fun _=>rfl))) (step:=Zrb) (fun _=>by kernel_rfl) (fun _ _ e=>⟨_,e⟩) (ZV (Zm 2 Wd ZiC) (Zm 1 We ZiD)) (ZB.fail _ _)))⟩
def ZAr:=conP true ZNM (.dat .bool) Zfo
theorem ZOJ:Zf prog 76 ZAr:=Ze (calU [] [ZHT] 40 1048576 8 76) true (by rfl) (by rfl) (fun x r e=>(Zk _ _ _ _ _ _ _).trans ((show _=Zfo x by kernel_rfl).trans e)) (.inl rfl)
def ZNN:List Sh:=[.dat (.sl tEn),.dat (.sl tEn)]
def ZtK:Nat→List Nat:=fun c=>bif c.beq 0 then [0,1,5] else [4]
def Zgf:StS:=⟨[(0,.sl tEn),(1,.sl tEn),(5,.int .i64)],[],0⟩
def Wf:StS:=⟨[(4,.undef)],[],0⟩
def Wg:StS:=⟨[(4,.bool)],[],0⟩
abbrev Hw:=((List En)×(List En)×Int)
def ZCC:StD Zgf→Hw:=fun ((a,b,c,_),_)=>(a,b,c)
def ZEm:Hw→StD Zgf:=fun (a,b,c)=>((a,b,c,()),())
abbrev Ju:=Unit
def ZU3 (d:StD Wf):Ju:=()
def ZiE (x:Ju):StD Wf:=(((),()),())
abbrev Jv:=Bool
def ZU4 (d:StD Wg):Jv:=(d.1.1)
def ZiF (x:Jv):StD Wg:=((x,()),())
def Zab (s0 s1:List En) (s5:Int):Option (((List En)×(List En)×Int)⊕(Unit⊕Bool)):=bif decide (s5<(s0.length:Int)) then bif decide (0≤s5) then Za s0[s5.toNat]? none fun d5=>bif decide (0≤s5) then Za s1[s5.toNat]? none fun d6=>bif !(d5.1==d6.1&&(d5.2.1==d6.2.1&&(d5.2.2.1==d6.2.2.1&&(d5.2.2.2.1==d6.2.2.2.1&&(d5.2.2.2.2.1==d6.2.2.2.2.1&&d5.2.2.2.2.2==d6.2.2.2.2.2))))) then some (.inr (.inr false)) else some (.inl (s0,s1,i64.wrap (s5+1))) else none else none else some (.inr (.inl PUnit.unit))
def Zrc:Hw→Option (Hw⊕(Ju⊕Jv)):=fun (a,b,c)=>Zab a b c
def ZfO (x:Hw):Option (Ju⊕Jv):=Zh Zrc Zl x
def Zvs:Nat→Tm→Prog (Nat×Tm):=(varP 0 (fun T h=>(rdS Zgf T h).map ZCC) ZfO (fun y=>.alt y (altE 2 Wf ZiE) (altE 1 Wg ZiF)) (fun _ _=>.fail))
def ZHU:Lpc:=⟨40,0,26,(fun base T=>.norm base (ZtK 0) T (Zvs base)),by kernel_rfl,by kernel_rfl,(loopU [] [] 40 1048576 8 (keep:=ZtK) (q:=Zvs) (by kernel_rfl) (Zv (s:=Zgf) (un:=ZEm) (by rfl) (fun _=>rfl) (ZW (Zn (s:=Wf) (un:=ZiE) (flat:=ZU3) (by rfl) (fun _=>rfl)) (Zn (s:=Wg) (un:=ZiF) (flat:=ZU4) (by rfl) (fun _=>rfl))) (step:=Zrc) (fun _=>by kernel_rfl) (fun _ _ e=>⟨_,e⟩) (ZV (Zm 2 Wf ZiE) (Zm 1 Wg ZiF)) (ZB.fail _ _)))⟩
def Zm0 (a0 a1:List En):Option Bool:=bif (a0.length:Int) !=(a1.length:Int) then some false else Za (ZfO (a0,a1,0)) none fun d4=>Sum.elim (fun e5=>some true) (fun e5=>some e5) d4
def WI (x:((List En)×((List En)×Unit))):Option Bool:=Zm0 x.1 x.2.1
def Znz:=conP false ZNN (.dat .bool) WI
theorem ZsR:Zf prog 40 Znz:=Ze (calU [] [ZHU] 40 1048576 8 40) false (by rfl) (by rfl) (fun x r e=>(Zk _ _ _ _ _ _ _).trans ((show _=WI x by kernel_rfl).trans e)) (.inr fun _=>rfl)
def WV (s1 s0:List En) (i:Nat)  (d:En):Option (Unit⊕(Ju⊕Jv)):=
 Za s1[i]? (none) fun d6=>
  bif !(d.1==d6.1&&(d.2.1==d6.2.1&&(d.2.2.1==d6.2.2.1&&(d.2.2.2.1==d6.2.2.2.1&&(d.2.2.2.2.1==d6.2.2.2.2.1&&d.2.2.2.2.2==d6.2.2.2.2.2))))) then
  some (.inr (.inr false))
 else some (.inl ())
def Zqp (s1 s0:List En):Option (Ju⊕Jv):=
 some (.inl PUnit.unit)
abbrev ZDT (s1 s0:List En) (i:Nat) (s:Unit):Hw:=(s0,s1,(i:Int))
def ZkO (s1 s0:List En) (s:Unit):Option (Ju⊕Jv):=Zp (fun i s d=>WV s1 s0 i  d) (fun s=>Zqp s1 s0 ) 0 s0 s
theorem ZqW (s1 s0:List En) (s:Unit) (hl:s0.length<9223372036854775807):ZfO (s0,s1,0)=ZkO s1 s0 s:=by
 unfold ZfO ZkO
 refine Zs s0 (ZDT s1 s0) _ _ ?_ ?_ s (by unfold Zl;omega)
 ·intro i s d hi hd
  have e1:decide ((i:Int)<(s0.length:Int))=true:=dT0 (by omega)
  have e2:decide (0≤(i:Int))=true:=dT0 (by omega)
  have e3:Int.toNat (i:Int)=i:=tN0 i
  have e4:=Zq hi (Nat.le_of_lt hl)
  show Zab (s0) (s1) ((i:Int))=upd _ (WV s1 s0 i  d)
  unfold Zab WV
  simp only [e1,e2,e3,e4,hd,cond_true,cond_false,Zb,ZC,ZF,ZD,ZI,ZJ,ZE]
 ·intro s
  have e1:decide ((s0.length:Int)<(s0.length:Int))=false:=dF0 (by omega)
  show Zab (s0) (s1) ((s0.length:Int))=_
  unfold Zab Zqp
  rw [e1]
  rfl
def ZNK:List Sh:=[.dat tE,.dat tE]
def ZQ8:List Con:=[⟨76,ZAr,ZOJ⟩]
def Zsm:=conP true ZNK (.dat .bool) WH
theorem ZBH:Zf prog 49 Zsm:=Ze (calU ZQ8 [] 40 1048576 8 49) true (by rfl) (by rfl) (fun x r e=>(Zk _ _ _ _ _ _ _).trans ((show _=WH x by kernel_rfl).trans e)) (.inl rfl)
def ZNS:List Sh:=[.dat tE,.dat (.int .i64),.dat tI]
def ZnA:=conP true ZNS (.dat tE) Zw
theorem ZsS:Zf prog 83 ZnA:=Ze (calU [] [] 40 1048576 8 83) true (by rfl) (by rfl) (fun x r e=>(Zk _ _ _ _ _ _ _).trans ((show _=Zw x by kernel_rfl).trans e)) (.inl rfl)
def ZNP:List Sh:=[.dat (.int .i64),.dat tE,.dat (.sl tEn),.dat .bool,.dat (.int .i64)]
def ZQ9:List Con:=[⟨117,Zsn,ZBI⟩,⟨19,Kn,YD⟩]
def ZAs:=conP true ZNP (.dat tI) Qm
theorem ZOK:Zf prog 86 ZAs:=Ze (calU ZQ9 [] 40 1048576 8 86) true (by rfl) (by rfl) (fun x r e=>(Zk _ _ _ _ _ _ _).trans ((show _=Qm x by kernel_rfl).trans e)) (.inl rfl)
theorem Zfe {α Y:Type} {f:Nat→Unit→α→Option (Unit⊕Y)} {fin:Unit→Option Y}:∀ (l:List α) (i:Nat),(∀ j d,l[j]? = some d→f (i+j) () d=some (.inl ()))→Zp f fin i l ()=fin ()
 | [],_,_=>rfl
 | d::r,i,h=>by
  rw [Qq (by have:=h 0 d rfl;rwa [Nat.add_zero] at this)]
  exact Zfe r (i+1) fun j d hd=>by rw [Nat.add_right_comm];exact h (j+1) d hd
def ZNQ:List Sh:=[.dat (.int .i64),.dat tA,.dat tE,.dat (.sl tEn)]
def ZtL:Nat→List Nat:=fun c=>bif c.beq 0 then [0,3,5,6,8,9,10,11] else [0,3,5,6,8,9,10]
def ZtM:Nat→List Nat:=fun c=>bif c.beq 0 then [0,3,5,6,8,9,10,12] else [5,6,8,9,10]
def Zo4:List Con:=[⟨119,Zqg,ZxR⟩,⟨120,ZwK,ZLO⟩,⟨19,Kn,YD⟩,⟨121,ZES,ZQ0⟩]
abbrev zh2:List (Nat×BSh):=[(0,.box [.int .i64,.int .i64,.int .i64,.int .i64,.int .i64,.int .i64,.int .i64,.int .i64,.int .i64]),(1,.box [.bool,.sl tI,.sl tI,.sl tI,.int .i64,.int .i64]),(2,.box [.bool,.nil,.nil,.nil,.int .i64,.int .i64,.bool,.nil,.nil,.nil,.int .i64,.int .i64,.nil,.nil,.nil]),(3,.box [.bool,.nil,.nil,.nil,.int .i64,.int .i64,.bool,.nil,.nil,.nil,.int .i64,.int .i64,.row 4,.nil,.nil]),(4,.row (.int .i64)),(5,.box [.bool,.sl tI,.row 6,.row 7,.int .i64,.int .i64]),(6,.row tI),(7,.row tI)]
def Zgh:StS:=⟨[(0,.int .i64),(3,.sl tEn),(5,.ptr 0 0),(6,.ptr 1 0),(8,.ptr 2 0),(9,.ptr 3 0),(10,.ptr 5 0),(11,.int .i64)],zh2,8⟩
def Wi:StS:=⟨[(0,.int .i64),(3,.sl tEn),(5,.ptr 0 0),(6,.ptr 1 0),(8,.ptr 2 0),(9,.ptr 3 0),(10,.ptr 5 0)],zh2,8⟩
def ZCE:StD Zgh→Zbs:=fun ((a,b,_,_,_,_,_,c,_),((d,e,f,g,h,i,j,k,l,_),(m,n,o,p,q,r,_),(s,_,_,_,t,u,w,_,_,_,y,z,_,_,_,_),(au,_,_,_,aw,ay,az,_,_,_,bu,bw,_,_,_,_),bz,(cu,cw,_,_,cy,cz,_),du,dw,_))=>(a,b,c,d,e,f,g,h,i,j,k,l,m,n,o,p,q,r,s,t,u,w,y,z,au,aw,ay,az,bu,bw,bz,cu,cw,cy,cz,du,dw)
def ZEo:Zbs→StD Zgh:=fun (a,b,c,d,e,f,g,h,i,j,k,l,m,n,o,p,q,r,s,t,u,w,y,z,au,aw,ay,az,bu,bw,bz,cu,cw,cy,cz,du,dw)=>((a,b,(),(),(),(),(),c,()),((d,e,f,g,h,i,j,k,l,()),(m,n,o,p,q,r,()),(s,(),(),(),t,u,w,(),(),(),y,z,(),(),(),()),(au,(),(),(),aw,ay,az,(),(),(),bu,bw,(),(),(),()),bz,(cu,cw,(),(),cy,cz,()),du,dw,()))
def ZU6:StD Wi→Zds:=fun ((a,b,_,_,_,_,_,_),((c,d,e,f,g,h,i,j,k,_),(l,m,n,o,p,q,_),(r,_,_,_,s,t,u,_,_,_,w,y,_,_,_,_),(z,_,_,_,au,aw,ay,_,_,_,az,bu,_,_,_,_),bw,(bz,cu,_,_,cw,cy,_),cz,du,_))=>(a,b,c,d,e,f,g,h,i,j,k,l,m,n,o,p,q,r,s,t,u,w,y,z,au,aw,ay,az,bu,bw,bz,cu,cw,cy,cz,du)
def ZiH:Zds→StD Wi:=fun (a,b,c,d,e,f,g,h,i,j,k,l,m,n,o,p,q,r,s,t,u,w,y,z,au,aw,ay,az,bu,bw,bz,cu,cw,cy,cz,du)=>((a,b,(),(),(),(),(),()),((c,d,e,f,g,h,i,j,k,()),(l,m,n,o,p,q,()),(r,(),(),(),s,t,u,(),(),(),w,y,(),(),(),()),(z,(),(),(),au,aw,ay,(),(),(),az,bu,(),(),(),()),bw,(bz,cu,(),(),cw,cy,()),cz,du,()))
abbrev zh3:List (Nat×BSh):=[(0,.box [.int .i64,.int .i64,.int .i64,.int .i64,.int .i64,.int .i64,.int .i64,.int .i64,.int .i64]),(1,.box [.bool,.sl tI,.sl tI,.sl tI,.int .i64,.int .i64]),(2,.box [.bool,.nil,.nil,.nil,.int .i64,.int .i64,.bool,.nil,.nil,.nil,.int .i64,.int .i64,.nil,.nil,.nil]),(3,.box [.bool,.nil,.nil,.nil,.int .i64,.int .i64,.bool,.nil,.nil,.nil,.int .i64,.int .i64,.nil,.nil,.nil]),(4,.box [.bool,.sl tI,.row 5,.row 6,.int .i64,.int .i64]),(5,.row tI),(6,.row tI)]
def Zgg:StS:=⟨[(0,.int .i64),(3,.sl tEn),(5,.ptr 0 0),(6,.ptr 1 0),(8,.ptr 2 0),(9,.ptr 3 0),(10,.ptr 4 0),(11,.int .i64)],zh3,7⟩
def Wh:StS:=⟨[(0,.int .i64),(3,.sl tEn),(5,.ptr 0 0),(6,.ptr 1 0),(8,.ptr 2 0),(9,.ptr 3 0),(10,.ptr 4 0)],zh3,7⟩
def ZCD:StD Zgg→Zbr:=fun ((a,b,_,_,_,_,_,c,_),((d,e,f,g,h,i,j,k,l,_),(m,n,o,p,q,r,_),(s,_,_,_,t,u,w,_,_,_,y,z,_,_,_,_),(au,_,_,_,aw,ay,az,_,_,_,bu,bw,_,_,_,_),(bz,cu,_,_,cw,cy,_),cz,du,_))=>(a,b,c,d,e,f,g,h,i,j,k,l,m,n,o,p,q,r,s,t,u,w,y,z,au,aw,ay,az,bu,bw,bz,cu,cw,cy,cz,du)
def ZEn:Zbr→StD Zgg:=fun (a,b,c,d,e,f,g,h,i,j,k,l,m,n,o,p,q,r,s,t,u,w,y,z,au,aw,ay,az,bu,bw,bz,cu,cw,cy,cz,du)=>((a,b,(),(),(),(),(),c,()),((d,e,f,g,h,i,j,k,l,()),(m,n,o,p,q,r,()),(s,(),(),(),t,u,w,(),(),(),y,z,(),(),(),()),(au,(),(),(),aw,ay,az,(),(),(),bu,bw,(),(),(),()),(bz,cu,(),(),cw,cy,()),cz,du,()))
def ZU5:StD Wh→Zdr:=fun ((a,b,_,_,_,_,_,_),((c,d,e,f,g,h,i,j,k,_),(l,m,n,o,p,q,_),(r,_,_,_,s,t,u,_,_,_,w,y,_,_,_,_),(z,_,_,_,au,aw,ay,_,_,_,az,bu,_,_,_,_),(bw,bz,_,_,cu,cw,_),cy,cz,_))=>(a,b,c,d,e,f,g,h,i,j,k,l,m,n,o,p,q,r,s,t,u,w,y,z,au,aw,ay,az,bu,bw,bz,cu,cw,cy,cz)
def ZiG:Zdr→StD Wh:=fun (a,b,c,d,e,f,g,h,i,j,k,l,m,n,o,p,q,r,s,t,u,w,y,z,au,aw,ay,az,bu,bw,bz,cu,cw,cy,cz)=>((a,b,(),(),(),(),(),()),((c,d,e,f,g,h,i,j,k,()),(l,m,n,o,p,q,()),(r,(),(),(),s,t,u,(),(),(),w,y,(),(),(),()),(z,(),(),(),au,aw,ay,(),(),(),az,bu,(),(),(),()),(bw,bz,(),(),cu,cw,()),cy,cz,()))
def Zvt:Nat→Tm→Prog (Nat×Tm):=(varP 0 (fun T h=>(rdS Zgg T h).map ZCD) ZfP (altE 2 Wh ZiG) (varP 0 (fun T h=>(rdS Zgh T h).map ZCE) ZfQ (altE 2 Wi ZiH) (fun _ _=>.fail)))
def Zm8:Lpc:=⟨88,0,108,(fun base T=>.norm base (ZtL 0) T (Zvt base)),by kernel_rfl,by kernel_rfl,(loopU Zo4 [] 40 1048576 8 (keep:=ZtL) (q:=Zvt) (by kernel_rfl) (Zv (s:=Zgg) (un:=ZEn) (by rfl) (fun _=>rfl) (Zn (s:=Wh) (un:=ZiG) (flat:=ZU5) (by rfl) (fun _=>rfl)) (step:=Zrd) (fun _=>by kernel_rfl) (fun _ _ e=>⟨_,e⟩) (Zm 2 Wh ZiG) (Zv (s:=Zgh) (un:=ZEo) (by rfl) (fun _=>rfl) (Zn (s:=Wi) (un:=ZiH) (flat:=ZU6) (by rfl) (fun _=>rfl)) (step:=Zre) (fun _=>by kernel_rfl) (fun _ _ e=>⟨_,e⟩) (Zm 2 Wi ZiH) (ZB.fail _ _))))⟩
abbrev ZZy:=cxU Zo4 [Zm8] 40 1048576
def Zgj:StS:=⟨[(0,.int .i64),(3,.sl tEn),(5,.ptr 0 0),(6,.ptr 1 0),(8,.ptr 2 0),(9,.ptr 3 0),(10,.ptr 5 0),(12,.int .i64)],zh2,8⟩
def Wk:StS:=⟨[(5,.ptr 0 0),(6,.ptr 1 0),(8,.ptr 2 0),(9,.ptr 3 0),(10,.ptr 5 0)],zh2,8⟩
def ZCG:StD Zgj→Zbu:=fun ((a,b,_,_,_,_,_,c,_),((d,e,f,g,h,i,j,k,l,_),(m,n,o,p,q,r,_),(s,_,_,_,t,u,w,_,_,_,y,z,_,_,_,_),(au,_,_,_,aw,ay,az,_,_,_,bu,bw,_,_,_,_),bz,(cu,cw,_,_,cy,cz,_),du,dw,_))=>(a,b,c,d,e,f,g,h,i,j,k,l,m,n,o,p,q,r,s,t,u,w,y,z,au,aw,ay,az,bu,bw,bz,cu,cw,cy,cz,du,dw)
def ZEq:Zbu→StD Zgj:=fun (a,b,c,d,e,f,g,h,i,j,k,l,m,n,o,p,q,r,s,t,u,w,y,z,au,aw,ay,az,bu,bw,bz,cu,cw,cy,cz,du,dw)=>((a,b,(),(),(),(),(),c,()),((d,e,f,g,h,i,j,k,l,()),(m,n,o,p,q,r,()),(s,(),(),(),t,u,w,(),(),(),y,z,(),(),(),()),(au,(),(),(),aw,ay,az,(),(),(),bu,bw,(),(),(),()),bz,(cu,cw,(),(),cy,cz,()),du,dw,()))
def ZU8:StD Wk→Zdu:=fun ((_,_,_,_,_,_),((a,b,c,d,e,f,g,h,i,_),(j,k,l,m,n,o,_),(p,_,_,_,q,r,s,_,_,_,t,u,_,_,_,_),(w,_,_,_,y,z,au,_,_,_,aw,ay,_,_,_,_),az,(bu,bw,_,_,bz,cu,_),cw,cy,_))=>(a,b,c,d,e,f,g,h,i,j,k,l,m,n,o,p,q,r,s,t,u,w,y,z,au,aw,ay,az,bu,bw,bz,cu,cw,cy)
def ZiJ:Zdu→StD Wk:=fun (a,b,c,d,e,f,g,h,i,j,k,l,m,n,o,p,q,r,s,t,u,w,y,z,au,aw,ay,az,bu,bw,bz,cu,cw,cy)=>(((),(),(),(),(),()),((a,b,c,d,e,f,g,h,i,()),(j,k,l,m,n,o,()),(p,(),(),(),q,r,s,(),(),(),t,u,(),(),(),()),(w,(),(),(),y,z,au,(),(),(),aw,ay,(),(),(),()),az,(bu,bw,(),(),bz,cu,()),cw,cy,()))
def Zgi:StS:=⟨[(0,.int .i64),(3,.sl tEn),(5,.ptr 0 0),(6,.ptr 1 0),(8,.ptr 2 0),(9,.ptr 3 0),(10,.ptr 4 0),(12,.int .i64)],zh3,7⟩
def Wj:StS:=⟨[(5,.ptr 0 0),(6,.ptr 1 0),(8,.ptr 2 0),(9,.ptr 3 0),(10,.ptr 4 0)],zh3,7⟩
def ZCF:StD Zgi→Zbt:=fun ((a,b,_,_,_,_,_,c,_),((d,e,f,g,h,i,j,k,l,_),(m,n,o,p,q,r,_),(s,_,_,_,t,u,w,_,_,_,y,z,_,_,_,_),(au,_,_,_,aw,ay,az,_,_,_,bu,bw,_,_,_,_),(bz,cu,_,_,cw,cy,_),cz,du,_))=>(a,b,c,d,e,f,g,h,i,j,k,l,m,n,o,p,q,r,s,t,u,w,y,z,au,aw,ay,az,bu,bw,bz,cu,cw,cy,cz,du)
def ZEp:Zbt→StD Zgi:=fun (a,b,c,d,e,f,g,h,i,j,k,l,m,n,o,p,q,r,s,t,u,w,y,z,au,aw,ay,az,bu,bw,bz,cu,cw,cy,cz,du)=>((a,b,(),(),(),(),(),c,()),((d,e,f,g,h,i,j,k,l,()),(m,n,o,p,q,r,()),(s,(),(),(),t,u,w,(),(),(),y,z,(),(),(),()),(au,(),(),(),aw,ay,az,(),(),(),bu,bw,(),(),(),()),(bz,cu,(),(),cw,cy,()),cz,du,()))
def ZU7:StD Wj→Zdt:=fun ((_,_,_,_,_,_),((a,b,c,d,e,f,g,h,i,_),(j,k,l,m,n,o,_),(p,_,_,_,q,r,s,_,_,_,t,u,_,_,_,_),(w,_,_,_,y,z,au,_,_,_,aw,ay,_,_,_,_),(az,bu,_,_,bw,bz,_),cu,cw,_))=>(a,b,c,d,e,f,g,h,i,j,k,l,m,n,o,p,q,r,s,t,u,w,y,z,au,aw,ay,az,bu,bw,bz,cu,cw)
def ZiI:Zdt→StD Wj:=fun (a,b,c,d,e,f,g,h,i,j,k,l,m,n,o,p,q,r,s,t,u,w,y,z,au,aw,ay,az,bu,bw,bz,cu,cw)=>(((),(),(),(),(),()),((a,b,c,d,e,f,g,h,i,()),(j,k,l,m,n,o,()),(p,(),(),(),q,r,s,(),(),(),t,u,(),(),(),()),(w,(),(),(),y,z,au,(),(),(),aw,ay,(),(),(),()),(az,bu,(),(),bw,bz,()),cu,cw,()))
def Zvu:Nat→Tm→Prog (Nat×Tm):=(varP 0 (fun T h=>(rdS Zgi T h).map ZCF) ZfR (altE 4 Wj ZiI) (varP 0 (fun T h=>(rdS Zgj T h).map ZCG) ZfS (altE 4 Wk ZiJ) (fun _ _=>.fail)))
def ZHV:Lpc:=⟨88,2,108,(fun base T=>.norm base (ZtM 0) T (Zvu base)),by kernel_rfl,by kernel_rfl,(loopU Zo4 [Zm8] 40 1048576 8 (keep:=ZtM) (q:=Zvu) (by kernel_rfl) (Zv (s:=Zgi) (un:=ZEp) (by rfl) (fun _=>rfl) (Zn (s:=Wj) (un:=ZiI) (flat:=ZU7) (by rfl) (fun _=>rfl)) (step:=Zrf) (fun _=>by kernel_rfl) (fun _ _ e=>⟨_,e⟩) (Zm 4 Wj ZiI) (Zv (s:=Zgj) (un:=ZEq) (by rfl) (fun _=>rfl) (Zn (s:=Wk) (un:=ZiJ) (flat:=ZU8) (by rfl) (fun _=>rfl)) (step:=Zrg) (fun _=>by kernel_rfl) (fun _ _ e=>⟨_,e⟩) (Zm 4 Wk ZiJ) (ZB.fail _ _))))⟩
def ZAt:=conP true ZNQ (.dat tO) ZmJ
theorem ZOL:Zf prog 88 ZAt:=Ze (calU Zo4 [Zm8,ZHV] 40 1048576 8 88) true (by rfl) (by rfl) (fun x r e=>(Zk _ _ _ _ _ _ _).trans ((show _=ZmJ x by kernel_rfl).trans e)) (.inl rfl)
def ZRW:List Sh:=[.dat (.int .i64)]
def ZYg (a0:Int):Option I:=some (a0,a0)
def ZLW (x:Int×Unit):Option I:=ZYg x.1
def ZmP:=conP true ZRW (.dat tI) ZLW
theorem Zq2:Zf prog 20 ZmP:=Ze (calU [] [] 40 1048576 8 20) true (by rfl) (by rfl) (fun x r e=>(Zk _ _ _ _ _ _ _).trans ((show _=ZLW x by kernel_rfl).trans e)) (.inl rfl)
def ZG7:List Sh:=[]
def ZMq:Option I:=some (-2147483648,2147483647)
theorem ZTl:evGX (cxU [] [] 40 1048576) keeps 8 84 ZG7 (.dat tI) (():Unit)=ZMq:=by kernel_rfl
def ZXY (x:Unit):Option I:=ZMq
def ZHb:=conP true ZG7 (.dat tI) ZXY
theorem ZTE:Zf prog 84 ZHb:=Ze (calU [] [] 40 1048576 8 84) true (by rfl) (by rfl) (fun x r e=>(Zk _ _ _ _ _ _ _).trans ((ZTl ).trans e)) (.inl rfl)
def ZRR:List Sh:=[.dat tA,.dat tE]
def ZVU:List Con:=[⟨116,ZKj,ZVO⟩,⟨47,Qs,QP⟩,⟨83,ZnA,ZsS⟩]
def ZG9:=conP true ZRR (.dat tO) Zp1
theorem ZTC:Zf prog 85 ZG9:=Ze (calU ZVU [] 40 1048576 8 85) true (by rfl) (by rfl) (fun x r e=>(Zk _ _ _ _ _ _ _).trans ((show _=Zp1 x by kernel_rfl).trans e)) (.inl rfl)
def ZK4:List Sh:=[.dat tA,.dat tE]
def ZNc:List Con:=[⟨119,Zqg,ZxR⟩,⟨122,ZwO,ZLQ⟩]
def ZwN:=conP true ZK4 (.dat tO) Zjj
theorem ZLP:Zf prog 89 ZwN:=Ze (calU ZNc [] 40 1048576 8 89) true (by rfl) (by rfl) (fun x r e=>(Zk _ _ _ _ _ _ _).trans ((show _=Zjj x by kernel_rfl).trans e)) (.inl rfl)
def ZNR:List Sh:=[.dat tA,.dat tE,.dat (.int .i64)]
def ZRa:List Con:=[⟨123,ZyM,ZM8⟩,⟨118,Zlk,Zo2⟩,⟨47,Qs,QP⟩,⟨83,ZnA,ZsS⟩]
def ZAu:=conP true ZNR (.dat tE) ZcA
theorem ZOM:Zf prog 90 ZAu:=Ze (calU ZRa [] 40 1048576 8 90) true (by rfl) (by rfl) (fun x r e=>(Zk _ _ _ _ _ _ _).trans ((show _=ZcA x by kernel_rfl).trans e)) (.inl rfl)
def ZRS:List Sh:=[.dat (.int .i64)]
def ZHa:=conP true ZRS (.dat (.int .i64)) Zny
theorem ZTD:Zf prog 91 ZHa:=Ze (calU [] [] 40 1048576 8 91) true (by rfl) (by rfl) (fun x r e=>(Zk _ _ _ _ _ _ _).trans ((show _=Zny x by kernel_rfl).trans e)) (.inl rfl)
def ZRQ:List Sh:=[.dat tU,.dat (.int .i64),.dat (.int .i64),.dat tE,.dat (.sl tEn)]
def ZVT:List Con:=[⟨20,ZmP,Zq2⟩,⟨83,ZnA,ZsS⟩,⟨84,ZHb,ZTE⟩,⟨85,ZG9,ZTC⟩,⟨86,ZAs,ZOK⟩,⟨88,ZAt,ZOL⟩,⟨89,ZwN,ZLP⟩,⟨90,ZAu,ZOM⟩,⟨91,ZHa,ZTD⟩,⟨66,Zqf,ZxP⟩,⟨118,Zlk,Zo2⟩,⟨47,Qs,QP⟩,⟨19,Kn,YD⟩]
def ZwM:=conP true ZRQ (.dat tO) Zce
theorem ZIv:Zf prog 56 ZwM:=Ze (calU ZVT [] 40 1048576 8 56) true (by rfl) (by rfl) (fun x r e=>(Zk _ _ _ _ _ _ _).trans ((show _=Zce x by kernel_rfl).trans e)) (.inl rfl)
theorem ZSW (x y:I):leqB x (Zg x y)=true:=by
 unfold Zg
 cases a:Zd x<;>cases b:Zd y<;>simp only [Bool.false_eq_true,if_true,if_false]<;>rw [QE]<;>unfold sub <;>
  simp only [Zd,decide_eq_true_eq,decide_eq_false_iff_not] at a b<;>(try simp only [mx,mn,nn])<;>first | omega | ((repeat' split)<;>omega)
def ZQt:List Sh:=[.dat (.sl tI),.dat (.int .i64)]
def ZTX:List Con:=[⟨95,Vk,Za3⟩]
def ZoV:=conP true ZQt (.dat tI) YB
theorem ZuQ:Zf prog 94 ZoV:=Ze (calU ZTX [] 40 1048576 8 94) true (by rfl) (by rfl) (fun x r e=>(Zk _ _ _ _ _ _ _).trans ((show _=YB x by kernel_rfl).trans e)) (.inl rfl)
theorem ZLu (a:List I):leR a a:=⟨rfl,fun i x y hx hy=>by rw [hx] at hy;cases hy;exact ZdP x⟩
def ZL5:List Sh:=[.dat (.sl tEn),.dat tEn]
def ZrM:Nat→List Nat:=fun c=>bif c.beq 0 then [0,3,6] else [0,3,6]
def ZBS:List Con:=[⟨61,Zqd,Zzb⟩]
def ZeV:StS:=⟨[(0,.sl tEn),(3,.ptr 0 0),(6,.int .i64)],[(0,.box [.int .i64,.bool,.int .i64,.int .i64,.int .i64,.int .i64])],1⟩
def Vf:StS:=⟨[(0,.sl tEn),(3,.ptr 0 0),(6,.int .i64)],[(0,.box [.int .i64,.bool,.int .i64,.int .i64,.int .i64,.int .i64])],1⟩
def ZAL:StD ZeV→YS:=fun ((a,_,b,_),((c,d,e,f,g,h,_),_))=>(a,b,c,d,e,f,g,h)
def ZCc:YS→StD ZeV:=fun (a,b,c,d,e,f,g,h)=>((a,(),b,()),((c,d,e,f,g,h,()),()))
def ZUv:StD Vf→Q2:=fun ((a,_,b,_),((c,d,e,f,g,h,_),_))=>(a,b,c,d,e,f,g,h)
def ZgW:Q2→StD Vf:=fun (a,b,c,d,e,f,g,h)=>((a,(),b,()),((c,d,e,f,g,h,()),()))
def Zub:Nat→Tm→Prog (Nat×Tm):=(varP 0 (fun T h=>(rdS ZeV T h).map ZAL) YF (altE 2 Vf ZgW) (fun _ _=>.fail))
def ZF4:Lpc:=⟨58,0,36,(fun base T=>.norm base (ZrM 0) T (Zub base)),by kernel_rfl,by kernel_rfl,(loopU ZBS [] 40 1048576 8 (keep:=ZrM) (q:=Zub) (by kernel_rfl) (Zv (s:=ZeV) (un:=ZCc) (by rfl) (fun _=>rfl) (Zn (s:=Vf) (un:=ZgW) (flat:=ZUv) (by rfl) (fun _=>rfl)) (step:=ZpQ) (fun _=>by kernel_rfl) (fun _ _ e=>⟨_,e⟩) (Zm 2 Vf ZgW) (ZB.fail _ _)))⟩
def Zmu:=conP false ZL5 (.tup [.dat (.int .i64),.dat .bool]) Je
theorem Zq1:Zf prog 58 Zmu:=Ze (calU ZBS [ZF4] 40 1048576 8 58) false (by rfl) (by rfl) (fun x r e=>(Zk _ _ _ _ _ _ _).trans ((show _=Je x by kernel_rfl).trans e)) (.inr fun _=>rfl)
def ZQu:List Sh:=[.dat (.sl tEn),.dat (.sl tEn)]
def Zva:Nat→List Nat:=fun c=>bif c.beq 0 then [0,1,5] else [0]
def ZII:List Con:=[⟨47,Qs,QP⟩,⟨58,Zmu,Zq1⟩,⟨19,Kn,YD⟩]
def ZhX:StS:=⟨[(0,.row 0),(1,.sl tEn),(5,.int .i64)],[(0,.row tEn)],1⟩
def ZaF:StS:=⟨[(0,.row 0)],[(0,.row tEn)],1⟩
def ZFJ:StD ZhX→VG:=fun ((_,a,b,_),(c,_))=>(a,b,c)
def ZGP:VG→StD ZhX:=fun (a,b,c)=>(((),a,b,()),(c,()))
def ZWN (d:StD ZaF):J7:=(d.2.1)
def Zj1 (x:J7):StD ZaF:=(((),()),(x,()))
def Zxv:Nat→Tm→Prog (Nat×Tm):=(varP 0 (fun T h=>(rdS ZhX T h).map ZFJ) Zhk (altE 2 ZaF Zj1) (fun _ _=>.fail))
def ZJE:Lpc:=⟨28,0,66,(fun base T=>.norm base (Zva 0) T (Zxv base)),by kernel_rfl,by kernel_rfl,(loopU ZII [] 40 1048576 8 (keep:=Zva) (q:=Zxv) (by kernel_rfl) (Zv (s:=ZhX) (un:=ZGP) (by rfl) (fun _=>rfl) (Zn (s:=ZaF) (un:=Zj1) (flat:=ZWN) (by rfl) (fun _=>rfl)) (step:=Zr5) (fun _=>by kernel_rfl) (fun _ _ e=>⟨_,e⟩) (Zm 2 ZaF Zj1) (ZB.fail _ _)))⟩
def Zlj:=conR false ZQu tEn Kx
theorem Zo1:Zf prog 28 Zlj:=ZhA (calU ZII [ZJE] 40 1048576 8 28) false (by rfl) (fun x r e=>(Zpp _ _ _ _ _ _ _).trans ((show _=Kx x by kernel_rfl).trans e)) (.inr (by rfl))
theorem Z54 {a b:En} (h:ky a=ky b) (k:vl a=vl b):a=b:=by
 obtain ⟨a1,a2,a3,a4,a5⟩:=a
 obtain ⟨b1,b2,b3,b4,b5⟩:=b
 simp only [ky,vl,Prod.mk.injEq] at h k
 obtain ⟨rfl,rfl,rfl,rfl⟩:=h
 subst k;rfl
theorem ZsG {a:Ky}:¬ ltK a a:=by unfold ltK;omega
def tget (l:List En) (k:Ky):Option I:=(l.find? fun e=>ky e==k).map vl
theorem JT (d:En) (r:List En) (k:Ky):tget (d::r) k=if ky d=k then some (vl d) else tget r k:=by
 unfold tget
 rw [List.find?_cons]
 by_cases h:ky d=k
 ·rw [if_pos h,show (ky d==k)=true from beq_iff_eq.2 h];rfl
 ·rw [if_neg h,show (ky d==k)=false from beq_eq_false_iff_ne.2 h]
theorem Z2b (k:Ky):tget [] k=none:=rfl
theorem ZIQ {l:List En} {k:Ky} (h:∀ d∈l,ky d≠k):tget l k=none:=by
 unfold tget
 rw [List.find?_eq_none.2 fun d hd=>by rw [beq_iff_eq];exact h d hd];rfl
theorem ZsU {l:List En} {k:Ky} {v:I} (h:tget l k=some v):∃ d∈l,ky d=k∧vl d=v:=by
 unfold tget at h
 obtain ⟨d,h1,h2⟩:=Option.map_eq_some_iff.1 h
 exact ⟨d,List.mem_of_find?_eq_some h1,beq_iff_eq.1 (List.find?_some (p:=fun e=>ky e==k) h1),h2⟩
theorem ZLA {l:List En} (hs:srt l) {d:En} (hd:d∈l):tget l (ky d)=some (vl d):=by
 induction l with
 | nil=>cases hd
 | cons x r ih=>
  rw [JT]
  have h:=List.pairwise_cons.1 hs
  rcases List.mem_cons.1 hd with rfl | hd
  ·rw [if_pos rfl]
  ·rw [if_neg (fun e=>ZsG (e ▸ h.1 d hd)),ih h.2 hd]
theorem Zwu:∀ {a b:List En},srt a→srt b→(∀ k,tget a k=tget b k)→a=b
 | [],[],_,_,_=>rfl
 | [],y::s,_,hb,h=>by have:=h (ky y);rw [JT,if_pos rfl] at this;cases this
 | x::r,[],ha,_,h=>by have:=h (ky x);rw [JT,if_pos rfl] at this;cases this
 | x::r,y::s,ha,hb,h=>by
  have ka:=List.pairwise_cons.1 ha
  have kb:=List.pairwise_cons.1 hb
  have hx:=h (ky x)
  have hy:=h (ky y)
  rw [JT,if_pos rfl,JT] at hx
  rw [JT,JT,if_pos rfl] at hy
  have hk:ky x=ky y:=by
   by_cases e:ky x=ky y
   ·exact e
   ·exfalso
    rw [if_neg (Ne.symm e)] at hx
    rw [if_neg e] at hy
    obtain ⟨d,hd,h1,_⟩:=ZsU hx.symm
    obtain ⟨c,hc,h2,_⟩:=ZsU hy
    have k1:=kb.1 d hd
    have k2:=ka.1 c hc
    rw [h1] at k1;rw [h2] at k2
    exact ZsG (ZtW k1 k2)
  rw [if_pos hk.symm] at hx
  have exy:x=y:=Z54 hk (Option.some.inj hx)
  subst exy
  rw [Zwu ka.2 kb.2 fun k=>?_]
  by_cases e:ky x=k
  ·subst e
   rw [ZIQ fun d hd q=>ZsG (q ▸ ka.1 d hd),ZIQ fun d hd q=>ZsG (q ▸ kb.1 d hd)]
  ·have:=h k
   rwa [JT,JT,if_neg e,if_neg e] at this
def optV (f:I→I→I) (o:Option I) (v:I):I:=match o with | some u=>f u v | none=>v
theorem ZXs {f:I→I→I} {e:En}:∀ {l:List En},srt l→∀ k,tget (pinT f e l) k=if ky e=k then some (optV f (tget l k) (vl e)) else tget l k
 | [],_,k=>by unfold pinT;rw [JT,Z2b];rfl
 | d::r,hs,k=>by
  have h:=List.pairwise_cons.1 hs
  unfold pinT
  split
  ·rename_i hc
   rw [JT,ZXs h.2,JT]
   by_cases hd:ky d=k
   ·rw [if_pos hd,if_pos hd,if_neg (fun e2=>ZsG (by rw [ZtZ,hd,e2] at hc;exact hc))]
   ·rw [if_neg hd,if_neg hd]
  ·rename_i hc
   split
   ·rename_i hz
    rw [ZtY] at hz
    rw [JT,JT,ZZU,hz]
    by_cases he:ky e=k
    ·rw [if_pos he,if_pos he,if_pos he];rfl
    ·rw [if_neg he,if_neg he,if_neg he]
   ·rename_i hz
    rw [ZtZ] at hc
    rw [ZtY] at hz
    have hed:=ZXd hc hz
    rw [JT]
    by_cases he:ky e=k
    ·rw [if_pos he,if_pos he,ZIQ]
     ·rfl
     ·intro x hx q
      rcases List.mem_cons.1 hx with rfl | hx
      ·exact hz (q.trans he.symm)
      ·exact ZsG (by have:=ZtW hed (h.1 x hx);rwa [q,he] at this)
    ·rw [if_neg he,if_neg he]
def ZQG:List Sh:=[.dat (.sl tEn),.dat (.sl tEn),.dat (.sl (.int .i64))]
def Zvg:Nat→List Nat:=fun c=>bif c.beq 0 then [5,7,12,13,14] else [7]
def ZIN:List Con:=[⟨106,Zih,ZoH⟩,⟨153,Km,YC⟩,⟨154,ZwP,ZIw⟩,⟨155,ZgA,ZnW⟩,⟨109,ZoU,ZuP⟩]
def Zh8:StS:=⟨[(5,.ptr 0 0),(7,.row 1),(12,.sl tEn),(13,.int .i64),(14,.int .i64)],[(0,.box [.sl (.int .i64)]),(1,.row tEn)],2⟩
def ZaR:StS:=⟨[(7,.row 0)],[(0,.row tEn)],1⟩
abbrev VL:=((List En)×Int×Int×(List Int)×(List En))
def ZFU:StD Zh8→VL:=fun ((_,_,a,b,c,_),((d,_),e,_))=>(a,b,c,d,e)
def ZG0:VL→StD Zh8:=fun (a,b,c,d,e)=>(((),(),a,b,c,()),((d,()),e,()))
abbrev Kd:=(List En)
def ZWZ (d:StD ZaR):Kd:=(d.2.1)
def Zkd (x:Kd):StD ZaR:=(((),()),(x,()))
def ZbP (gr:List En) (gz gw:Int) (b0:List Int) (b1:List En):Option (((List En)×Int×Int×(List Int)×(List En))⊕(List En)):=bif decide (gw<gz) then bif decide (0≤gw) then Za gr[gw.toNat]? none fun d7=>bif decide (d7.2.2.2.2.1>d7.2.2.2.2.2) then some (.inl (gr,gz,i64.wrap (gw+1),b0,b1)) else Za (Zhc (b1,d7,())) none fun d8=>bif !d8.2.1 then bif decide (0≤d8.1∧d8.1≤(b1.length:Int)∧(b1.length+2)*48≤lim) then some (.inl (gr,gz,i64.wrap (gw+1),b0,List.take (Int.toNat d8.1) b1++d7::List.drop (Int.toNat d8.1) b1)) else none else bif decide (0≤d8.1) then Za b1[Int.toNat d8.1]? none fun d9=>Za b1[Int.toNat d8.1]? none fun jf=>Za (Ze8 (jf.2.2.2.2,d7.2.2.2.2,b0,())) none fun j5=>bif decide (0≤d8.1) then Za b1[Int.toNat d8.1]? none fun j7=>Za b1[Int.toNat d8.1]? none fun gv=>some (.inl (gr,gz,i64.wrap (gw+1),b0,b1.set (Int.toNat d8.1) (gv.1,gv.2.1,gv.2.2.1,gv.2.2.2.1,j5))) else none else none else none else some (.inr b1)
def Zsb:VL→Option (VL⊕Kd):=fun (a,b,c,d,e)=>ZbP a b c d e
def Zhr (x:VL):Option Kd:=Zh Zsb Zl x
def ZxF:Nat→Tm→Prog (Nat×Tm):=(varP 0 (fun T h=>(rdS Zh8 T h).map ZFU) Zhr (altE 2 ZaR Zkd) (fun _ _=>.fail))
def ZJJ:Lpc:=⟨74,0,24,(fun base T=>.norm base (Zvg 0) T (ZxF base)),by kernel_rfl,by kernel_rfl,(loopU ZIN [] 40 1048576 8 (keep:=Zvg) (q:=ZxF) (by kernel_rfl) (Zv (s:=Zh8) (un:=ZG0) (by rfl) (fun _=>rfl) (Zn (s:=ZaR) (un:=Zkd) (flat:=ZWZ) (by rfl) (fun _=>rfl)) (step:=Zsb) (fun _=>by kernel_rfl) (fun _ _ e=>⟨_,e⟩) (Zm 2 ZaR Zkd) (ZB.fail _ _)))⟩
def ZzR (a0 a1:List En) (a2:List Int):Option (List En):=bif decide (((List.length (α:=I) [])+a0.length+1)*48≤lim) then Za (Zhr (a1,(a1.length:Int),0,a2,[]++a0)) none fun d5=>some d5 else none
def Zs4 (x:((List En)×((List En)×((List Int)×Unit)))):Option (List En):=ZzR x.1 x.2.1 x.2.2.1
def ZEU:=conR false ZQG tEn Zs4
theorem ZQ2:Zf prog 74 ZEU:=ZhA (calU ZIN [ZJJ] 40 1048576 8 74) false (by rfl) (fun x r e=>(Zpp _ _ _ _ _ _ _).trans ((show _=Zs4 x by kernel_rfl).trans e)) (.inr (by rfl))
def ZbA (b0:List Int) (gr:List En) (i:Nat) (b1:List En) (d:En):Option ((List En)⊕Kd):=
 bif decide (d.2.2.2.2.1>d.2.2.2.2.2) then
  some (.inl (b1))
 else Za (Zhc (b1,d,())) (none) fun d8=>
  bif !d8.2.1 then
  bif decide (0≤d8.1∧d8.1≤(↑b1.length:Int)∧(b1.length+2)*48≤lim) then
  some (.inl (List.take (Int.toNat d8.1) b1++d::List.drop (Int.toNat d8.1) b1))
 else none
 else bif decide (0≤d8.1) then
  Za b1[Int.toNat d8.1]? (none) fun d9=>
  Za b1[Int.toNat d8.1]? (none) fun jf=>
  Za (Ze8 (jf.2.2.2.2,d.2.2.2.2,b0,())) (none) fun j5=>
  bif decide (0≤d8.1) then
  Za b1[Int.toNat d8.1]? (none) fun j7=>
  Za b1[Int.toNat d8.1]? (none) fun gv=>
  some (.inl (b1.set (Int.toNat d8.1) (gv.1,gv.2.1,gv.2.2.1,gv.2.2.2.1,j5)))
 else none
 else none
def ZrG (b0:List Int) (gr b1:List En):Option Kd:=
 some b1
abbrev ZGv (b0:List Int) (gr:List En) (i:Nat) (s:List En):VL:=(gr,(gr.length:Int),(i:Int),b0,s)
def Zl8 (b0:List Int) (gr s:List En):Option Kd:=Zp (fun i s d=>ZbA b0 gr i s d) (fun s=>ZrG b0 gr s) 0 gr s
theorem ZGi (b0:List Int) (gr s:List En) (hl:gr.length<9223372036854775807):Zhr (gr,(gr.length:Int),0,b0,s)=Zl8 b0 gr s:=by
 unfold Zhr Zl8
 refine Zs gr (ZGv b0 gr) _ _ ?_ ?_ s (by unfold Zl;omega)
 ·intro i s d hi hd
  have e1:decide ((i:Int)<(gr.length:Int))=true:=dT0 (by omega)
  have e2:decide (0≤(i:Int))=true:=dT0 (by omega)
  have e3:Int.toNat (i:Int)=i:=tN0 i
  have e4:=Zq hi (Nat.le_of_lt hl)
  show ZbP (gr) ((gr.length:Int)) ((i:Int)) (b0) (s)=upd _ (ZbA b0 gr i s d)
  unfold ZbP ZbA
  simp only [e1,e2,e3,e4,hd,cond_true,cond_false,Zb,ZC,ZF,ZD,ZI,ZJ,ZE]
 ·intro s
  have e1:decide ((gr.length:Int)<(gr.length:Int))=false:=dF0 (by omega)
  show ZbP (gr) ((gr.length:Int)) ((gr.length:Int)) (b0) (s)=_
  unfold ZbP ZrG
  rw [e1]
  rfl
def ZR3:List Sh:=[.dat (.sl tEn),.dat (.sl tEn)]
def ZV5:List Con:=[⟨81,Zs8,ZAa⟩]
def ZC5 (a0 a1:List En):Option (List En):=Za (Zhb (a0,a1,())) none fun d3=>some d3
def ZvW (x:((List En)×((List En)×Unit))):Option (List En):=ZC5 x.1 x.2.1
def ZHi:=conR false ZR3 tEn ZvW
theorem ZTL:Zf prog 72 ZHi:=ZhA (calU ZV5 [] 40 1048576 8 72) false (by rfl) (fun x r e=>(Zpp _ _ _ _ _ _ _).trans ((show _=ZvW x by kernel_rfl).trans e)) (.inr (by rfl))
def ZNV:List Sh:=[.dat tI,.dat tI,.dat (.sl (.int .i64))]
def ZrN:Nat→List Nat:=fun c=>bif c.beq 0 then [2,3,6,7,8,9,10] else [3,6,7,8,9]
def ZFi:List Con:=[⟨47,Qs,QP⟩,⟨19,Kn,YD⟩]
def ZeW:StS:=⟨[(2,.sl (.int .i64)),(3,.ptr 0 0),(6,.ptr 1 0),(7,.ptr 2 0),(8,.int .i64),(9,.int .i64),(10,.int .i64)],[(0,.box [.int .i64,.int .i64]),(1,.box [.int .i64,.int .i64]),(2,.box [.int .i64,.int .i64])],3⟩
def Vg:StS:=⟨[(3,.ptr 0 0),(6,.ptr 1 0),(7,.ptr 2 0),(8,.int .i64),(9,.int .i64)],[(0,.box [.int .i64,.int .i64]),(1,.box [.int .i64,.int .i64]),(2,.box [.int .i64,.int .i64])],3⟩
def ZAM:StD ZeW→YT:=fun ((a,_,_,_,b,c,d,_),((e,f,_),(g,h,_),(i,j,_),_))=>(a,b,c,d,e,f,g,h,i,j)
def ZCd:YT→StD ZeW:=fun (a,b,c,d,e,f,g,h,i,j)=>((a,(),(),(),b,c,d,()),((e,f,()),(g,h,()),(i,j,()),()))
def ZUw:StD Vg→Q3:=fun ((_,_,_,a,b,_),((c,d,_),(e,f,_),(g,h,_),_))=>(a,b,c,d,e,f,g,h)
def ZgX:Q3→StD Vg:=fun (a,b,c,d,e,f,g,h)=>(((),(),(),a,b,()),((c,d,()),(e,f,()),(g,h,()),()))
def Zuc:Nat→Tm→Prog (Nat×Tm):=(varP 0 (fun T h=>(rdS ZeW T h).map ZAM) WM (altE 2 Vg ZgX) (fun _ _=>.fail))
def ZF5:Lpc:=⟨102,0,66,(fun base T=>.norm base (ZrN 0) T (Zuc base)),by kernel_rfl,by kernel_rfl,(loopU ZFi [] 40 1048576 8 (keep:=ZrN) (q:=Zuc) (by kernel_rfl) (Zv (s:=ZeW) (un:=ZCd) (by rfl) (fun _=>rfl) (Zn (s:=Vg) (un:=ZgX) (flat:=ZUw) (by rfl) (fun _=>rfl)) (step:=ZpR) (fun _=>by kernel_rfl) (fun _ _ e=>⟨_,e⟩) (Zm 2 Vg ZgX) (ZB.fail _ _)))⟩
def Zsp:=conP true ZNV (.dat tI) Zfq
theorem ZBK:Zf prog 102 Zsp:=Ze (calU ZFi [ZF5] 40 1048576 8 102) true (by rfl) (by rfl) (fun x r e=>(Zk _ _ _ _ _ _ _).trans ((show _=Zfq x by kernel_rfl).trans e)) (.inl rfl)
def Zzr:List Sh:=[.dat (.sl tEn),.dat (.sl tEn)]
def Zln:Nat→List Nat:=fun c=>bif c.beq 0 then [0,1,12,13] else [4]
def Hm:StS:=⟨[(0,.sl tEn),(1,.sl tEn),(12,.int .i64),(13,.int .i64)],[],0⟩
def Q5:StS:=⟨[(4,.undef)],[],0⟩
def Q6:StS:=⟨[(4,.bool)],[],0⟩
abbrev QC:=((List En)×(List En)×Int×Int)
def Zsu:StD Hm→QC:=fun ((a,b,c,d,_),_)=>(a,b,c,d)
def ZsW:QC→StD Hm:=fun (a,b,c,d)=>((a,b,c,d,()),())
abbrev Z1:=Unit
def ZMj (d:StD Q5):Z1:=()
def Zap (x:Z1):StD Q5:=(((),()),())
abbrev Z2:=Bool
def ZMk (d:StD Q6):Z2:=(d.1.1)
def Zaq (x:Z2):StD Q6:=((x,()),())
def JI (s0 s1:List En) (gr gz:Int):Option (((List En)×(List En)×Int×Int)⊕(Unit⊕Bool)):=bif decide (gz<gr) then bif decide (0≤gz) then Za s0[gz.toNat]? none fun d6=>bif decide (0≤gz) then Za s1[gz.toNat]? none fun d7=>bif !(d6.1==d7.1&&(d6.2.1==d7.2.1&&(d6.2.2.1==d7.2.2.1&&(d6.2.2.2.1==d7.2.2.2.1&&(d6.2.2.2.2.1==d7.2.2.2.2.1&&d6.2.2.2.2.2==d7.2.2.2.2.2))))) then some (.inr (.inr false)) else some (.inl (s0,s1,gr,i64.wrap (gz+1))) else none else none else some (.inr (.inl PUnit.unit))
def ZjL:QC→Option (QC⊕(Z1⊕Z2)):=fun (a,b,c,d)=>JI a b c d
def Hi (x:QC):Option (Z1⊕Z2):=Zh ZjL Zl x
def Zmz:Nat→Tm→Prog (Nat×Tm):=(varP 0 (fun T h=>(rdS Hm T h).map Zsu) Hi (fun y=>.alt y (altE 2 Q5 Zap) (altE 1 Q6 Zaq)) (fun _ _=>.fail))
def ZuJ:Lpc:=⟨75,0,26,(fun base T=>.norm base (Zln 0) T (Zmz base)),by kernel_rfl,by kernel_rfl,(loopU [] [] 40 1048576 8 (keep:=Zln) (q:=Zmz) (by kernel_rfl) (Zv (s:=Hm) (un:=ZsW) (by rfl) (fun _=>rfl) (ZW (Zn (s:=Q5) (un:=Zap) (flat:=ZMj) (by rfl) (fun _=>rfl)) (Zn (s:=Q6) (un:=Zaq) (flat:=ZMk) (by rfl) (fun _=>rfl))) (step:=ZjL) (fun _=>by kernel_rfl) (fun _ _ e=>⟨_,e⟩) (ZV (Zm 2 Q5 Zap) (Zm 1 Q6 Zaq)) (ZB.fail _ _)))⟩
def ZkF (a0 a1:List En):Option Bool:=bif (a0.length:Int) !=(a1.length:Int) then some false else Za (Hi (a0,a1,(a0.length:Int),0)) none fun d4=>Sum.elim (fun e5=>some true) (fun e5=>some e5) d4
def Zd8 (x:((List En)×((List En)×Unit))):Option Bool:=ZkF x.1 x.2.1
def Zox:=conP true Zzr (.dat .bool) Zd8
theorem Zz9:Zf prog 75 Zox:=Ze (calU [] [ZuJ] 40 1048576 8 75) true (by rfl) (by rfl) (fun x r e=>(Zk _ _ _ _ _ _ _).trans ((show _=Zd8 x by kernel_rfl).trans e)) (.inl rfl)
def ZR4:List Sh:=[.dat (.sl tEn),.dat (.sl tEn)]
def ZV6:List Con:=[⟨75,Zox,Zz9⟩]
def ZC6 (a0 a1:List En):Option Bool:=Za (Zd8 (a0,a1,())) none fun d3=>some d3
def Zp6 (x:((List En)×((List En)×Unit))):Option Bool:=ZC6 x.1 x.2.1
def ZHj:=conP false ZR4 (.dat .bool) Zp6
theorem ZTM:Zf prog 45 ZHj:=Ze (calU ZV6 [] 40 1048576 8 45) false (by rfl) (by rfl) (fun x r e=>(Zk _ _ _ _ _ _ _).trans ((show _=Zp6 x by kernel_rfl).trans e)) (.inr fun _=>rfl)
def YW (s1 s0:List En) (i:Nat)  (d:En):Option (Unit⊕(Z1⊕Z2)):=
 Za s1[i]? (none) fun d7=>
  bif !(d.1==d7.1&&(d.2.1==d7.2.1&&(d.2.2.1==d7.2.2.1&&(d.2.2.2.1==d7.2.2.2.1&&(d.2.2.2.2.1==d7.2.2.2.2.1&&d.2.2.2.2.2==d7.2.2.2.2.2))))) then
  some (.inr (.inr false))
 else some (.inl ())
def Zjt (s1 s0:List En):Option (Z1⊕Z2):=
 some (.inl PUnit.unit)
abbrev ZsP (s1 s0:List En) (i:Nat) (s:Unit):QC:=(s0,s1,(s0.length:Int),(i:Int))
def ZjH (s1 s0:List En) (s:Unit):Option (Z1⊕Z2):=Zp (fun i s d=>YW s1 s0 i  d) (fun s=>Zjt s1 s0 ) 0 s0 s
theorem ZsN (s1 s0:List En) (s:Unit) (hl:s0.length<9223372036854775807):Hi (s0,s1,(s0.length:Int),0)=ZjH s1 s0 s:=by
 unfold Hi ZjH
 refine Zs s0 (ZsP s1 s0) _ _ ?_ ?_ s (by unfold Zl;omega)
 ·intro i s d hi hd
  have e1:decide ((i:Int)<(s0.length:Int))=true:=dT0 (by omega)
  have e2:decide (0≤(i:Int))=true:=dT0 (by omega)
  have e3:Int.toNat (i:Int)=i:=tN0 i
  have e4:=Zq hi (Nat.le_of_lt hl)
  show JI (s0) (s1) ((s0.length:Int)) ((i:Int))=upd _ (YW s1 s0 i  d)
  unfold JI YW
  simp only [e1,e2,e3,e4,hd,cond_true,cond_false,Zb,ZC,ZF,ZD,ZI,ZJ,ZE]
 ·intro s
  have e1:decide ((s0.length:Int)<(s0.length:Int))=false:=dF0 (by omega)
  show JI (s0) (s1) ((s0.length:Int)) ((s0.length:Int))=_
  unfold JI Zjt
  rw [e1]
  rfl
abbrev WP:=((List En)×(List En)×(List Int)×Int×(List En))
abbrev Zci:=(List En)
def K7 (s0 s1:List En) (s2:List Int) (s8:Int) (b0:List En):Option (((List En)×(List En)×(List Int)×Int×(List En))⊕(List En)):=bif decide (s8<(b0.length:Int)) then bif decide (0≤s8) then Za b0[s8.toNat]? none fun d7=>Za b0[s8.toNat]? none fun d8=>Za (Je (s0,d8,())) none fun d9=>bif decide (0≤s8) then Za b0[s8.toNat]? none fun jf=>Za b0[s8.toNat]? none fun j5=>Za (Je (s1,j5,())) none fun j7=>bif d9.2.1 then bif j7.2.1 then bif decide (0≤d9.1) then Za s0[Int.toNat d9.1]? none fun gv=>bif decide (0≤j7.1) then Za s1[Int.toNat j7.1]? none fun jj=>Za (Zfq (gv.2.2.2.2,jj.2.2.2.2,s2,())) none fun jk=>bif decide (0≤s8) then Za b0[s8.toNat]? none fun gp=>Za b0[s8.toNat]? none fun gl=>some (.inl (s0,s1,s2,i64.wrap (s8+1),b0.set s8.toNat (gl.1,gl.2.1,gl.2.2.1,gl.2.2.2.1,jk))) else none else none else none else some (.inl (s0,s1,s2,i64.wrap (s8+1),b0)) else some (.inl (s0,s1,s2,i64.wrap (s8+1),b0)) else none else none else some (.inr b0)
def ZjK:WP→Option (WP⊕Zci):=fun (a,b,c,d,e)=>K7 a b c d e
def Zkt (x:WP):Option Zci:=Zh ZjK Zl x
def ZoZ (a0 a1:List En) (a2:List Int):Option (List En):=Za (Kx (a0,a1,())) none fun d5=>Za (Zkt (a0,a1,a2,0,d5)) none fun d6=>some d6
def ZoQ (x:((List En)×((List En)×((List Int)×Unit)))):Option (List En):=ZoZ x.1 x.2.1 x.2.2.1
theorem ZYr (a b:List En) (hs:srt a) (hn:a.length+b.length≤1000000000):ZC5 a b=some (addT Zg a b):=by
 unfold ZC5 Zhb
 simp only [ZIe a b hs hn,Zb]
theorem Z2l (st:List Int) (hst:st.length<9223372036854775807) (L:List En) (j:Nat) (s:List En) (d:En) (hs:srt s) (hn:s.length≤1000000000):ZbA st L j s d=some (.inl (stpT (widF st) s d)):=by
 unfold ZbA stpT
 rw [show decide (d.2.2.2.2.1>d.2.2.2.2.2)=Zd (vl d) from rfl]
 cases hE:Zd (vl d)
 case true=>rfl
 simp only [cond_false,Zhc,ZMJ s d hs (by omega),Zb,Bool.false_eq_true,if_false]
 cases hf:fndT d s
 ·simp only [Bool.not_false,cond_true,ZW7 hn (ZIj d s),tN0]
  rw [ZI9 _ _ _ hf]
 ·obtain ⟨x,hx,hk⟩:=Ztv d s hf
  simp only [Bool.not_true,cond_false,cond_true,dT0 (show (0:Int)≤(posT d s:Int) by omega),tN0,hx,Zb,Ze8,ZKw _ _ _ hst]
  rw [ZJa _ _ _ x hf hx]
  rfl
theorem ZVC (l es:List En) (st:List Int) (hst:st.length<9223372036854775807) (hs:srt l) (hn:l.length+es.length≤1000000000):ZzR l es st=some (addT (widF st) l es):=by
 unfold ZzR
 simp only [List.nil_append,List.length_nil,Nat.zero_add]
 rw [show decide ((l.length+1)*48≤lim)=true from dT0 (by unfold lim;omega),ZGi st es l (by omega)]
 unfold Zl8
 rw [ZhF (g:=stpT (widF st)) (fun s r=>srt s∧s.length+r.length≤1000000000) (fun j s d r h=>⟨Z2l st hst es j s d h.1 (by have:=h.2;rw [List.length_cons] at this;omega),ZD9 h.1,by
  have:=h.2;have:=ZD8 (widF st) s d;rw [List.length_cons] at *;omega⟩) es 0 l ⟨hs,hn⟩]
 rfl
def eqE (d e:En):Bool:=d.1==e.1&&(d.2.1==e.2.1&&(d.2.2.1==e.2.2.1&&(d.2.2.2.1==e.2.2.2.1&&(d.2.2.2.2.1==e.2.2.2.2.1&&d.2.2.2.2.2==e.2.2.2.2.2))))
theorem ZWq {d e:En}:eqE d e=true↔d=e:=by
 obtain ⟨d1,d2,d3,d4,d5,d6⟩:=d
 obtain ⟨e1,e2,e3,e4,e5,e6⟩:=e
 simp only [eqE,Bool.and_eq_true,beq_iff_eq,Prod.mk.injEq]
theorem ZXC {f:Nat→Unit→En→Option (Unit⊕(Unit⊕Bool))} {b:List En} (h:∀ j d,f j () d=Za b[j]? none fun e=>bif !(eqE d e) then some (.inr (.inr false)) else some (.inl ())) :
  ∀ (r:List En) (j:Nat),j+r.length=b.length→Zp f (fun _=>some (.inl ())) j r ()=bif decide (r=b.drop j) then some (.inl ()) else some (.inr false)
 | [],j,hj=>by
  rw [List.drop_eq_nil_of_le (by simp only [List.length_nil] at hj;omega)];rfl
 | d::r,j,hj=>by
  simp only [List.length_cons] at hj
  have hlt:j<b.length:=by omega
  have hd:=h j d
  rw [List.getElem?_eq_getElem hlt] at hd
  simp only [Zb] at hd
  rw [List.drop_eq_getElem_cons hlt]
  generalize b[j]=x at hd
  cases he:eqE d x
  ·rw [he] at hd
   have:¬ (d::r=x::b.drop (j+1)):=fun q=>by
    have:=ZWq.2 (List.cons.inj q).1
    rw [he] at this;cases this
   rw [dF0 this,Zp,hd];rfl
  ·rw [he] at hd
   obtain rfl:=ZWq.1 he
   rw [Qq hd,ZXC h r (j+1) (by omega)]
   congr 1
   rw [decide_eq_decide]
   exact ⟨fun q=>by rw [q],fun q=>(List.cons.inj q).2⟩
theorem ZZ7 {g:Option Bool} {a b:List En} {f:Nat→Unit→En→Option (Unit⊕(Unit⊕Bool))} (h:∀ j d,f j () d=Za b[j]? none fun e=>bif !(eqE d e) then some (.inr (.inr false)) else some (.inl ()))
  (hg:g=bif (a.length:Int) !=(b.length:Int) then some false else Za (Zp f (fun _=>some (.inl ())) 0 a ()) none fun d4=>Sum.elim (fun _=>some true) (fun e5=>some e5) d4):g=some (decide (a=b)):=by
 rw [hg]
 by_cases hl:a.length=b.length
 ·rw [show ((a.length:Int) !=(b.length:Int))=false by simp [hl],ZXC h a 0 (by omega),List.drop_zero]
  cases decide (a=b)<;>rfl
 ·rw [show ((a.length:Int) !=(b.length:Int))=true by simp;omega,dF0 (fun e=>hl (by rw [e]))];rfl
theorem ZYs (a b:List En) (ha:a.length<2305843009213693952):ZC6 a b=some (decide (a=b)):=by
 unfold ZC6 Zd8
 rw [ZZ7 (g:=ZkF a b) (f:=fun i _ d=>YW b a i d) (fun j d=>rfl) (by
  unfold ZkF
  rw [ZsN b a () (by omega)];rfl)]
 rfl
theorem Zxg (a b:List En) (ha:a.length<2305843009213693952):Zm0 a b=some (decide (a=b)):=
 ZZ7 (f:=fun i _ d=>WV b a i d) (fun j d=>rfl) (by
  unfold Zm0
  rw [ZqW b a () (by omega)];rfl)
def setW (a b:List En) (st:List Int) (e:En):En:=match tget a (ky e),tget b (ky e) with
 | some u,some v=>setV e (rwidV u v st)
 | _,_=>e
theorem Zsv {l:List En} (hs:srt l) (e:En):(fndT e l=true→∃ d,l[posT e l]? = some d∧tget l (ky e)=some (vl d))∧(fndT e l=false→tget l (ky e)=none):=by
 refine ⟨fun h=>?_,fun h=>?_⟩
 ·obtain ⟨d,hd,hk⟩:=Ztv e l h
  exact ⟨d,hd,by rw [← hk];exact ZLA hs (mG0 hd)⟩
 ·cases hg:tget l (ky e) with
  | none=>rfl
  | some v=>
   exfalso
   obtain ⟨d,hd,hk,hv⟩:=ZsU hg
   obtain ⟨q,hq,rfl⟩:=List.mem_iff_getElem.1 hd
   have h0:ordI l[q] e=0:=ZtY.2 hk
   have h1:=fun k=>ZDu e l q _ k (List.getElem?_eq_getElem hq)
   by_cases h2:q<posT e l
   ·have:=h1 h2;omega
   ·have h3:posT e l<l.length:=by omega
    have h4:=ZSz e l h _ (List.getElem?_eq_getElem h3)
    have h5:=ZIi hs (posT e l) _ (Nat.le_refl _) (List.getElem?_eq_getElem h3)
    by_cases h6:q=posT e l
    ·subst h6;exact h4 h0
    ·have:=List.pairwise_iff_getElem.1 hs (posT e l) q h3 hq (by omega)
     rw [ZtZ] at h5
     rw [ZtY] at h4
     rw [hk] at this
     exact h5 this
theorem ZQL (a b:List En) (st:List Int) (hst:st.length<9223372036854775807) (ha:srt a) (hb:srt b) (hn:a.length+b.length≤1000000000):ZoZ a b st=some ((addT rJoin a b).map (setW a b st)):=by
 unfold ZoZ
 simp only [Kx,Zne a b hn,Zb]
 have hl:=Zlz rJoin b a
 generalize addT rJoin a b=l at *
 have key:=Zps (step:=fun x=>K7 x.1 x.2.1 x.2.2.1 x.2.2.2.1 x.2.2.2.2) (fun i r=>(a,b,st,(i:Int),r)) (fun _=>setW a b st) (fun r=>r) l (fun i d r hi hr hd=>by
   have hj:i<l.length:=(List.getElem?_eq_some_iff.1 hi).1
   have e1:decide ((i:Int)<(r.length:Int))=true:=dT0 (by omega)
   have e2:decide (0≤(i:Int))=true:=dT0 (by omega)
   have e3:Int.toNat (i:Int)=i:=tN0 i
   have e4:i64.wrap ((i:Int)+1)=((i+1:Nat):Int):=by rw [wr (by omega)];omega
   show K7 a b st (i:Int) r=_
   unfold K7
   simp only [e1,e2,e3,e4,hd,cond_true,Zb,Je,ZDp _ _ (show a.length<9223372036854775807 by omega),ZDp _ _ (show b.length<9223372036854775807 by omega)]
   have noset:r.set i d=r:=by
    refine List.ext_getElem? fun q=>?_
    by_cases hq:i=q
    ·subst hq;rw [List.getElem?_set_self (by omega),hd]
    ·rw [List.getElem?_set_ne hq]
   unfold setW
   cases hfa:fndT d a
   ·rw [(Zsv ha d).2 hfa]
    simp only [cond_false,noset]
   ·obtain ⟨x,hx,hgx⟩:=(Zsv ha d).1 hfa
    rw [hgx]
    cases hfb:fndT d b
    ·rw [(Zsv hb d).2 hfb]
     simp only [cond_false,cond_true,noset]
    ·obtain ⟨y,hy,hgy⟩:=(Zsv hb d).1 hfb
     rw [hgy]
     simp only [cond_true,dT0 (show (0:Int)≤(posT d a:Int) by omega),dT0 (show (0:Int)≤(posT d b:Int) by omega),tN0,hx,hy,Zb,Zfq,ZIb _ _ _ hst]
     rfl)
  (fun r hr=>by
   show K7 a b st (l.length:Int) r=_
   unfold K7
   rw [hr,dF0 (by omega)]
   rfl) (by omega)
 unfold Zkt
 rw [show Zh ZjK Zl (a,b,st,0,l)=_ from key]
 simp only [Zb]
 congr 1
 refine List.ext_getElem? fun q=>?_
 rw [List.getElem?_mapIdx,List.getElem?_map]
def ZL2:List Sh:=[.dat (.sl tI),.dat (.sl tI)]
def ZkH:Nat→List Nat:=fun c=>bif c.beq 0 then [0,1,5,6] else [5]
def ZBP:List Con:=[⟨94,ZoV,ZuQ⟩,⟨19,Kn,YD⟩]
def ZdL:StS:=⟨[(0,.sl tI),(1,.sl tI),(5,.row 0),(6,.int .i64)],[(0,.row tI)],1⟩
def Hc:StS:=⟨[(5,.row 0)],[(0,.row tI)],1⟩
def Zzy:StD ZdL→K1:=fun ((a,b,_,c,_),(d,_))=>(a,b,c,d)
def ZAe:K1→StD ZdL:=fun (a,b,c,d)=>((a,b,(),c,()),(d,()))
def ZSv (d:StD Hc):QK:=(d.2.1)
def ZfJ (x:QK):StD Hc:=(((),()),(x,()))
def ZrR:Nat→Tm→Prog (Nat×Tm):=(varP 0 (fun T h=>(rdS ZdL T h).map Zzy) Zdm (altE 2 Hc ZfJ) (fun _ _=>.fail))
def ZDe:Lpc:=⟨124,0,25,(ownP [] [(5,tI)] (ZkH 0) (fun base T=>.norm base (ZkH 0) T (ZrR base))),by kernel_rfl,by kernel_rfl,(Ja (loopU ZBP [] 40 1048576 8 (keep:=ZkH) (q:=ZrR) (by kernel_rfl) (Zv (s:=ZdL) (un:=ZAe) (by rfl) (fun _=>rfl) (Zn (s:=Hc) (un:=ZfJ) (flat:=ZSv) (by rfl) (fun _=>rfl)) (step:=ZoK) (fun _=>by kernel_rfl) (fun _ _ e=>⟨_,e⟩) (Zm 2 Hc ZfJ) (ZB.fail _ _))))⟩
def ZyK:=conP true ZL2 (.dat (.sl tI)) Zg1
theorem ZM6:Zf prog 124 ZyK:=Ze (calU ZBP [ZDe] 40 1048576 8 124) true (by rfl) (by rfl) (fun x r e=>(Zk _ _ _ _ _ _ _).trans ((show _=Zg1 x by kernel_rfl).trans e)) (.inl rfl)
def ZK2:List Sh:=[.dat (.sl tI),.dat (.sl tI),.dat (.sl (.int .i64))]
def Zjx:Nat→List Nat:=fun c=>bif c.beq 0 then [0,1,2,7,8] else [7]
def Zzd:List Con:=[⟨94,ZoV,ZuQ⟩,⟨102,Zsp,ZBK⟩]
def Zcs:StS:=⟨[(0,.sl tI),(1,.sl tI),(2,.sl (.int .i64)),(7,.row 0),(8,.int .i64)],[(0,.row tI)],1⟩
def Yv:StS:=⟨[(7,.row 0)],[(0,.row tI)],1⟩
def Zyh:StD Zcs→KC:=fun ((a,b,c,_,d,_),(e,_))=>(a,b,c,d,e)
def Zyw:KC→StD Zcs:=fun (a,b,c,d,e)=>((a,b,c,(),d,()),(e,()))
def ZRj (d:StD Yv):Qv:=(d.2.1)
def Ze2 (x:Qv):StD Yv:=(((),()),(x,()))
def ZqP:Nat→Tm→Prog (Nat×Tm):=(varP 0 (fun T h=>(rdS Zcs T h).map Zyh) Zcg (altE 2 Yv Ze2) (fun _ _=>.fail))
def ZAW:Lpc:=⟨125,0,28,(ownP [] [(7,tI)] (Zjx 0) (fun base T=>.norm base (Zjx 0) T (ZqP base))),by kernel_rfl,by kernel_rfl,(Ja (loopU Zzd [] 40 1048576 8 (keep:=Zjx) (q:=ZqP) (by kernel_rfl) (Zv (s:=Zcs) (un:=Zyw) (by rfl) (fun _=>rfl) (Zn (s:=Yv) (un:=Ze2) (flat:=ZRj) (by rfl) (fun _=>rfl)) (step:=ZnZ) (fun _=>by kernel_rfl) (fun _ _ e=>⟨_,e⟩) (Zm 2 Yv Ze2) (ZB.fail _ _))))⟩
def ZwJ:=conP true ZK2 (.dat (.sl tI)) Zfg
theorem ZLN:Zf prog 125 ZwJ:=Ze (calU Zzd [ZAW] 40 1048576 8 125) true (by rfl) (by rfl) (fun x r e=>(Zk _ _ _ _ _ _ _).trans ((show _=Zfg x by kernel_rfl).trans e)) (.inl rfl)
def ZNJ:List Sh:=[.dat tE,.dat tE]
def ZQ7:List Con:=[⟨124,ZyK,ZM6⟩]
def Zsl:=conP true ZNJ (.dat tE) Zfm
theorem ZBG:Zf prog 92 Zsl:=Ze (calU ZQ7 [] 40 1048576 8 92) true (by rfl) (by rfl) (fun x r e=>(Zk _ _ _ _ _ _ _).trans ((show _=Zfm x by kernel_rfl).trans e)) (.inl rfl)
def ZL1:List Sh:=[.dat tE,.dat tE,.dat (.sl (.int .i64))]
def ZOT:List Con:=[⟨92,Zsl,ZBG⟩,⟨125,ZwJ,ZLN⟩]
def ZyJ:=conP true ZL1 (.dat tE) ZoP
theorem ZM5:Zf prog 93 ZyJ:=Ze (calU ZOT [] 40 1048576 8 93) true (by rfl) (by rfl) (fun x r e=>(Zk _ _ _ _ _ _ _).trans ((show _=ZoP x by kernel_rfl).trans e)) (.inl rfl)
theorem Z3e (st:List Int):okF (widF st):=fun u v hu eu hv ev=>by
 obtain ⟨h1,h2,h3,_⟩:=ZEG hu hv st
 refine ⟨h3,?_⟩
 exact (ZdW h1 eu).2
def oneO (f:I→I→I) (k:Ky) (o:Option I) (e:En):Option I:=if Zd (vl e) then o else if ky e=k then some (optV f o (vl e)) else o
theorem Z3x {f:I→I→I} {l:List En} (hs:srt l) (e:En) (k:Ky):tget (stpT f l e) k=oneO f k (tget l k) e:=by
 unfold stpT oneO
 split
 ·rfl
 ·exact ZXs hs k
theorem ZNy {f:I→I→I} (k:Ky):∀ {es l:List En},srt l→tget (addT f l es) k=es.foldl (oneO f k) (tget l k)
 | [],l,_=>rfl
 | e::r,l,hs=>by
  show tget (addT f (stpT f l e) r) k=r.foldl (oneO f k) (oneO f k (tget l k) e)
  rw [ZNy k (es:=r) (ZD9 hs),Z3x hs]
theorem ZPr {f:I→I→I} {k:Ky}:∀ {es:List En} {o:Option I},(∀ e∈es,ky e≠k)→es.foldl (oneO f k) o=o
 | [],_,_=>rfl
 | e::r,o,h=>by
  rw [List.foldl_cons]
  have:oneO f k o e=o:=by
   unfold oneO
   rw [if_neg (h e (List.mem_cons_self ..))]
   split<;>rfl
  rw [this]
  exact ZPr fun x hx=>h x (List.mem_cons_of_mem _ hx)
def bothO (f:I→I→I) (o p:Option I):Option I:=match p with | none=>o | some v=>some (optV f o v)
theorem Zg2 {f:I→I→I} (k:Ky):∀ {b a:List En},srt b→(∀ x∈b,entOK x)→srt a→tget (addT f a b) k=bothO f (tget a k) (tget b k)
 | [],a,_,_,_=>rfl
 | d::r,a,hb,hk,ha=>by
  have h:=List.pairwise_cons.1 hb
  have kd:=hk d (List.mem_cons_self ..)
  rw [ZNy k ha,List.foldl_cons,JT]
  by_cases e:ky d=k
  ·rw [if_pos e,ZPr (fun x hx q=>ZsG (by have:=h.1 x hx;rwa [q,e] at this))]
   unfold oneO
   rw [if_neg (by rw [show Zd (vl d)=false from kd.n];decide),if_pos e];rfl
  ·rw [if_neg e]
   have:oneO f k (tget a k) d=tget a k:=by unfold oneO;rw [if_neg e];split<;>rfl
   rw [this,← ZNy k ha]
   exact Zg2 k h.2 (fun x hx=>hk x (List.mem_cons_of_mem _ hx)) ha
theorem Z2X {g:En→En} (hg:∀ e,ky (g e)=ky e) {l:List En} (h:srt l):srt (l.map g):=by
 unfold srt
 rw [List.pairwise_map]
 exact h.imp fun h=>by rw [hg,hg];exact h
theorem ZXe {g:En→En} (hg:∀ e,ky (g e)=ky e) (k:Ky):∀ {l:List En},tget (l.map g) k=(l.find? fun e=>ky e==k).map fun e=>vl (g e)
 | []=>rfl
 | d::r=>by
  rw [List.map_cons,JT,hg,List.find?_cons]
  by_cases e:ky d=k
  ·rw [if_pos e,show (ky d==k)=true from beq_iff_eq.2 e];rfl
  ·rw [if_neg e,show (ky d==k)=false from beq_eq_false_iff_ne.2 e];exact ZXe hg k
theorem ZUc {a b:List En} {st:List Int} (ha:tabOK a) (hb:tabOK b):(addT rJoin a b).map (setW a b st)=addT (widF st) a b:=by
 have hk:∀ e,ky (setW a b st e)=ky e:=fun e=>by unfold setW;split<;>rfl
 refine Zwu (Z2X hk (ZlA ha.srt)) (ZlA ha.srt) fun k=>?_
 rw [ZXe hk,Zg2 k hb.srt hb.e ha.srt]
 have hj:tget (addT rJoin a b) k=bothO rJoin (tget a k) (tget b k):=Zg2 k hb.srt hb.e ha.srt
 unfold tget at hj ⊢
 cases hf:(addT rJoin a b).find? fun e=>ky e==k with
 | none=>
  rw [hf] at hj
  cases hB:b.find? fun e=>ky e==k with
  | none=>rw [hB] at hj;exact hj
  | some y=>rw [hB] at hj;cases hj
 | some z=>
  rw [hf] at hj
  have hz:ky z=k:=beq_iff_eq.1 (List.find?_some (p:=fun e=>ky e==k) hf)
  simp only [Option.map_some] at hj ⊢
  unfold setW
  rw [hz]
  unfold tget
  cases hB:b.find? fun e=>ky e==k with
  | none=>
   rw [hB] at hj
   cases hA:a.find? fun e=>ky e==k with
   | none=>rw [hA] at hj;cases hj
   | some x=>rw [hA] at hj;exact hj
  | some y=>
   rw [hB] at hj
   cases hA:a.find? fun e=>ky e==k with
   | none=>rw [hA] at hj;exact hj
   | some x=>
    simp only [Option.map_some,bothO,optV]
    congr 1
    show rwidV (vl x) (vl y) st=widV (vl x) (vl y) st
    exact (Z0N (ha.e x (List.mem_of_find?_eq_some hA)).v (hb.e y (List.mem_of_find?_eq_some hB)).v st).symm
def upF (f:I→I→I):Prop:=∀ u v,isB u=true→isB v=true→leqB u (f u v)=true∧leqB v (f u v)=true
theorem Zns:upF Zg:=fun u v _ _=>⟨ZHI u v,ZXa u v⟩
theorem ZCf (st:List Int):upF (widF st):=fun u v hu hv=>⟨(ZEG hu hv st).1,(ZEG hu hv st).2.1⟩
theorem ZqB {l:List En} (h:∀ x∈l,entOK x) {k:Ky} {u:I} (hu:tget l k=some u):isB u=true∧Zd u=false:=by
 obtain ⟨d,hd,_,rfl⟩:=ZsU hu
 exact ⟨(h d hd).v,(h d hd).n⟩
theorem tabOK.a {l:List En} (h:tabOK l):∀ x∈l,okA x:=fun x hx=>(h.e x hx).a
section
open Go.Proofs
variable {u:U} {t:Int} {a b:E}
theorem Z13 {a b:E} (ha:a.1=true) (hb:b.1=true) (h:sameE a b=true):a=b:=by
 unfold sameE at h
 rw [ha,hb] at h
 simp only [Bool.and_true,cond_true,Bool.and_eq_true,decide_eq_true_eq,beq_iff_eq] at h
 obtain ⟨on,V,G,A,must,may⟩:=a
 obtain ⟨on',V',G',A',must',may'⟩:=b
 cases ha;cases hb
 obtain ⟨rfl,rfl,rfl,rfl,rfl⟩:=h
 rfl
end
def ZL0:List Sh:=[.dat tU,.dat (.int .i64)]
def ZlU:Nat→List Nat:=fun c=>bif c.beq 0 then [1,2,4,5,6] else [2,4,5]
def ZlV:Nat→List Nat:=fun c=>bif c.beq 0 then [2,4,5,7] else [2,4,5]
def ZlW:Nat→List Nat:=fun c=>bif c.beq 0 then [2,4,5,8] else [4,5]
def Zfj:List Con:=[⟨20,ZmP,Zq2⟩]
abbrev zh5:List (Nat×BSh):=[(0,.box [.sl (.int .i64),.sl (.int .i64),.int .i64,.sl tC]),(1,.box [.bool,.nil,.nil,.nil,.int .i64,.int .i64]),(2,.box [.bool,.row 3,.nil,.nil,.int .i64,.int .i64]),(3,.row tI)]
def ZeP:StS:=⟨[(1,.int .i64),(2,.ptr 0 0),(4,.ptr 1 0),(5,.ptr 2 0),(6,.int .i64)],zh5,4⟩
def H8:StS:=⟨[(2,.ptr 0 0),(4,.ptr 1 0),(5,.ptr 2 0)],zh5,4⟩
def ZAF:StD ZeP→YO:=fun ((a,_,_,_,b,_),((c,d,e,f,_),(g,_,_,_,h,i,_),(j,_,_,_,k,l,_),m,_))=>(a,b,c,d,e,f,g,h,i,j,k,l,m)
def ZB6:YO→StD ZeP:=fun (a,b,c,d,e,f,g,h,i,j,k,l,m)=>((a,(),(),(),b,()),((c,d,e,f,()),(g,(),(),(),h,i,()),(j,(),(),(),k,l,()),m,()))
def ZUo:StD H8→Zch:=fun ((_,_,_,_),((a,b,c,d,_),(e,_,_,_,f,g,_),(h,_,_,_,i,j,_),k,_))=>(a,b,c,d,e,f,g,h,i,j,k)
def ZgP:Zch→StD H8:=fun (a,b,c,d,e,f,g,h,i,j,k)=>(((),(),(),()),((a,b,c,d,()),(e,(),(),(),f,g,()),(h,(),(),(),i,j,()),k,()))
def Zt5:Nat→Tm→Prog (Nat×Tm):=(varP 0 (fun T h=>(rdS ZeP T h).map ZAF) Zec (altE 2 H8 ZgP) (fun _ _=>.fail))
def ZbB:Lpc:=⟨55,0,68,(ownP [(2,1,tI)] [] (ZlU 0) (fun base T=>.norm base (ZlU 0) T (Zt5 base))),by kernel_rfl,by kernel_rfl,(Ja (loopU Zfj [] 40 1048576 8 (keep:=ZlU) (q:=Zt5) (by kernel_rfl) (Zv (s:=ZeP) (un:=ZB6) (by rfl) (fun _=>rfl) (Zn (s:=H8) (un:=ZgP) (flat:=ZUo) (by rfl) (fun _=>rfl)) (step:=ZpM) (fun _=>by kernel_rfl) (fun _ _ e=>⟨_,e⟩) (Zm 2 H8 ZgP) (ZB.fail _ _))))⟩
abbrev ZYY:=cxU Zfj [ZbB] 40 1048576
abbrev zh6:List (Nat×BSh):=[(0,.box [.sl (.int .i64),.sl (.int .i64),.int .i64,.sl tC]),(1,.box [.bool,.nil,.nil,.nil,.int .i64,.int .i64]),(2,.box [.bool,.row 3,.row 4,.nil,.int .i64,.int .i64]),(3,.row tI),(4,.row tI)]
def ZeQ:StS:=⟨[(2,.ptr 0 0),(4,.ptr 1 0),(5,.ptr 2 0),(7,.int .i64)],zh6,5⟩
def H9:StS:=⟨[(2,.ptr 0 0),(4,.ptr 1 0),(5,.ptr 2 0)],zh6,5⟩
def ZAG:StD ZeQ→YP:=fun ((_,_,_,a,_),((b,c,d,e,_),(f,_,_,_,g,h,_),(i,_,_,_,j,k,_),l,m,_))=>(a,b,c,d,e,f,g,h,i,j,k,l,m)
def ZB7:YP→StD ZeQ:=fun (a,b,c,d,e,f,g,h,i,j,k,l,m)=>(((),(),(),a,()),((b,c,d,e,()),(f,(),(),(),g,h,()),(i,(),(),(),j,k,()),l,m,()))
def ZUp:StD H9→QZ:=fun ((_,_,_,_),((a,b,c,d,_),(e,_,_,_,f,g,_),(h,_,_,_,i,j,_),k,l,_))=>(a,b,c,d,e,f,g,h,i,j,k,l)
def ZgQ:QZ→StD H9:=fun (a,b,c,d,e,f,g,h,i,j,k,l)=>(((),(),(),()),((a,b,c,d,()),(e,(),(),(),f,g,()),(h,(),(),(),i,j,()),k,l,()))
def Zt6:Nat→Tm→Prog (Nat×Tm):=(varP 0 (fun T h=>(rdS ZeQ T h).map ZAG) Zed (altE 4 H9 ZgQ) (fun _ _=>.fail))
def ZlX:Lpc:=⟨55,2,68,(ownP [(2,2,tI)] [] (ZlV 0) (fun base T=>.norm base (ZlV 0) T (Zt6 base))),by kernel_rfl,by kernel_rfl,(Ja (loopU Zfj [ZbB] 40 1048576 8 (keep:=ZlV) (q:=Zt6) (by kernel_rfl) (Zv (s:=ZeQ) (un:=ZB7) (by rfl) (fun _=>rfl) (Zn (s:=H9) (un:=ZgQ) (flat:=ZUp) (by rfl) (fun _=>rfl)) (step:=ZpN) (fun _=>by kernel_rfl) (fun _ _ e=>⟨_,e⟩) (Zm 4 H9 ZgQ) (ZB.fail _ _))))⟩
abbrev ZYZ:=cxU Zfj [ZbB,ZlX] 40 1048576
def ZeR:StS:=⟨[(2,.ptr 0 0),(4,.ptr 1 0),(5,.ptr 2 0),(8,.int .i64)],[(0,.box [.sl (.int .i64),.sl (.int .i64),.int .i64,.sl tC]),(1,.box [.bool,.nil,.nil,.nil,.int .i64,.int .i64]),(2,.box [.bool,.row 3,.row 4,.row 5,.int .i64,.int .i64]),(3,.row tI),(4,.row tI),(5,.row tI)],6⟩
def Va:StS:=⟨[(4,.ptr 0 0),(5,.ptr 1 0)],[(0,.box [.bool,.nil,.nil,.nil,.int .i64,.int .i64]),(1,.box [.bool,.row 2,.row 3,.row 4,.int .i64,.int .i64]),(2,.row tI),(3,.row tI),(4,.row tI)],5⟩
def ZAH:StD ZeR→YQ:=fun ((_,_,_,a,_),((b,c,d,e,_),(f,_,_,_,g,h,_),(i,_,_,_,j,k,_),l,m,n,_))=>(a,b,c,d,e,f,g,h,i,j,k,l,m,n)
def ZB8:YQ→StD ZeR:=fun (a,b,c,d,e,f,g,h,i,j,k,l,m,n)=>(((),(),(),a,()),((b,c,d,e,()),(f,(),(),(),g,h,()),(i,(),(),(),j,k,()),l,m,n,()))
def ZUq:StD Va→Q0:=fun ((_,_,_),((a,_,_,_,b,c,_),(d,_,_,_,e,f,_),g,h,i,_))=>(a,b,c,d,e,f,g,h,i)
def ZgR:Q0→StD Va:=fun (a,b,c,d,e,f,g,h,i)=>(((),(),()),((a,(),(),(),b,c,()),(d,(),(),(),e,f,()),g,h,i,()))
def Zt7:Nat→Tm→Prog (Nat×Tm):=(varP 0 (fun T h=>(rdS ZeR T h).map ZAH) Zee (altE 6 Va ZgR) (fun _ _=>.fail))
def ZF0:Lpc:=⟨55,4,68,(ownP [(2,3,tI)] [] (ZlW 0) (fun base T=>.norm base (ZlW 0) T (Zt7 base))),by kernel_rfl,by kernel_rfl,(Ja (loopU Zfj [ZbB,ZlX] 40 1048576 8 (keep:=ZlW) (q:=Zt7) (by kernel_rfl) (Zv (s:=ZeR) (un:=ZB8) (by rfl) (fun _=>rfl) (Zn (s:=Va) (un:=ZgR) (flat:=ZUq) (by rfl) (fun _=>rfl)) (step:=ZpO) (fun _=>by kernel_rfl) (fun _ _ e=>⟨_,e⟩) (Zm 6 Va ZgR) (ZB.fail _ _))))⟩
def Zqc:=conP true ZL0 (.dat tE) Zg0
theorem Zza:Zf prog 55 Zqc:=Ze (calU Zfj [ZbB,ZlX,ZF0] 40 1048576 8 55) true (by rfl) (by rfl) (fun x r e=>(Zk _ _ _ _ _ _ _).trans ((show _=Zg0 x by kernel_rfl).trans e)) (.inl rfl)
section
section
variable [RT] {P:Program}
def rowTs:List Nat→Tm×Hp→Tm×Hp
 | [],x=>x
 | t::r,x=>rowTs r (rowT1 t x)
section
variable {ok:Nat→Prop} {hdr0 hdr:Nat→Value} {S0 S:Stb} {h0 h:Hp} {w0 w:World} {a0 a:Act} {T:Tm}
theorem Left.rowT1 (l:Left P false ok hdr0 S0 h0 w0 a0 h T hdr S a w) (t:Nat):∃ S',Left P false ok hdr0 S0 h0 w0 a0 (Go.Proofs.YtbdcblpjemmipaaGreat.Ex.rowT1 t (T,h)).2 (Go.Proofs.YtbdcblpjemmipaaGreat.Ex.rowT1 t (T,h)).1 hdr S' a w:=by
 unfold Go.Proofs.YtbdcblpjemmipaaGreat.Ex.rowT1
 simp only
 split
 case h_2=>exact ⟨S,l⟩
 rename_i id hid
 split
 case h_2=>exact ⟨S,l⟩
 rename_i e x hf
 obtain ⟨S',p,hd⟩:=ZBn (tr:=false) l.post.real l.post.ment hf
 refine ⟨S',l.trans ⟨p,fun s=>?_,fun s n hn=>?_,rfl,rfl⟩⟩
 ·rw [QD]
  by_cases k:t=s
  ·rw [if_pos k,← k]
   have hv:=l.tmps t
   rw [hid] at hv
   generalize a.tmps.getD t undef=v at hv
   cases hv with | row _ ao len cap hh=>
   rw [hh] at hd
   exact .sl e x _ hd
  ·rw [if_neg k];exact (l.tmps s).mono p.step.sle fun _ _=>rfl
 ·rw [QD] at hn
  by_cases k:t=s
  ·rw [if_pos k] at hn;simp [AV.ids] at hn
  ·rw [if_neg k] at hn;exact .inl (l.tok s n hn)
theorem Left.rowTs:∀ (ts:List Nat) {T:Tm} {h:Hp} {S:Stb} (_:Left P false ok hdr0 S0 h0 w0 a0 h T hdr S a w),∃ S',Left P false ok hdr0 S0 h0 w0 a0 (Go.Proofs.YtbdcblpjemmipaaGreat.Ex.rowTs ts (T,h)).2 (Go.Proofs.YtbdcblpjemmipaaGreat.Ex.rowTs ts (T,h)).1 hdr S' a w
 | [],_,_,S,l=>⟨S,l⟩
 | t::r,T,h,S,l=>by
  obtain ⟨S',l'⟩:=l.rowT1 t
  exact Left.rowTs r l'
def rowBs (base:Nat):List (Nat×Nat)→Hp→Hp
 | [],h=>h
 | (id,j)::r,h=>rowBs base r (rowB1 (base+id) j h)
theorem Left.rowBs (base:Nat):∀ (bs:List (Nat×Nat)) {h:Hp} {S:Stb} (_:Left P false ok hdr0 S0 h0 w0 a0 h T hdr S a w),∃ S',Left P false ok hdr0 S0 h0 w0 a0 (Go.Proofs.YtbdcblpjemmipaaGreat.Ex.rowBs base bs h) T hdr S' a w
 | [],_,S,l=>⟨S,l⟩
 | (id,j)::r,_,S,l=>by
  obtain ⟨S',l'⟩:=l.rowB1 (base+id) j
  exact Left.rowBs base r l'
def rowP (bs:List (Nat×Nat)) (ts:List Nat) (keep:List Nat) (r:Nat→Tm→Prog (Nat×Tm)) (base:Nat) (T:Tm):Prog (Nat×Tm):=
 .norm base keep T fun T1=>.glob (fun h=>some (rowTs ts (T1,rowBs base bs h))) fun T2=>r base T2
theorem ZPU {n:Nat} {c:Code} {bs:List (Nat×Nat)} {ts:List Nat} {keep:List Nat} {r:Nat→Tm→Prog (Nat×Tm)} (hs:Qc P n c r):Qc P n c (rowP bs ts keep r):=by
 intro tr ok hdr0 S0 h0 w0 a0 h T hdr S a w f e T' h' f' Q l hn ev hO hK
 obtain ⟨T1,h1,hdr1,rfl,l1,ev⟩:=l.normed ev
 obtain ⟨S1,l2⟩:=Left.rowBs h0.c bs l1
 obtain ⟨S2,l3⟩:=Left.rowTs ts l2
 unfold ex at ev
 simp only [run,cond_false,Option.bind_some] at ev
 exact hs false ok hdr0 S0 h0 w0 a0 _ _ hdr1 S2 a w f e T' h' f' Q l3 hn ev hO hK
end
end
end
def ZNZ:List Sh:=[.dat tU]
def Zm6:Nat→List Nat:=fun c=>bif c.beq 0 then [1,3,4] else [1,3]
def ZtS:Nat→List Nat:=fun c=>bif c.beq 0 then [1,3,5] else [1,3]
def ZtU:Nat→List Nat:=fun c=>bif c.beq 0 then [1,3,6,7] else [1,3,6]
def ZtT:Nat→List Nat:=fun c=>bif c.beq 0 then [1,3,6] else [3]
def Za4:List Con:=[⟨82,ZHh,ZTK⟩]
def Zgr:StS:=⟨[(1,.ptr 0 0),(3,.sl (.int .i64)),(4,.int .i64)],zh0,1⟩
def Wv:StS:=⟨[(1,.ptr 0 0),(3,.sl (.int .i64))],zh0,1⟩
def ZCO:StD Zgr→HB:=fun ((_,a,b,_),((c,d,e,f,_),_))=>(a,b,c,d,e,f)
def ZEy:HB→StD Zgr:=fun (a,b,c,d,e,f)=>(((),a,b,()),((c,d,e,f,()),()))
def ZVj:StD Wv→JD:=fun ((_,a,_),((b,c,d,e,_),_))=>(a,b,c,d,e)
def ZiU:JD→StD Wv:=fun (a,b,c,d,e)=>(((),a,()),((b,c,d,e,()),()))
def ZvB:Nat→Tm→Prog (Nat×Tm):=(varP 0 (fun T h=>(rdS Zgr T h).map ZCO) Zbl (altE 2 Wv ZiU) (fun _ _=>.fail))
def Yr:Lpc:=⟨54,0,88,(rowP [] [3] (Zm6 0) (fun base T=>.norm base (Zm6 0) T (ZvB base))),by kernel_rfl,by kernel_rfl,(ZPU (loopU Za4 [] 40 1048576 8 (keep:=Zm6) (q:=ZvB) (by kernel_rfl) (Zv (s:=Zgr) (un:=ZEy) (by rfl) (fun _=>rfl) (Zn (s:=Wv) (un:=ZiU) (flat:=ZVj) (by rfl) (fun _=>rfl)) (step:=Zrm) (fun _=>by kernel_rfl) (fun _ _ e=>⟨_,e⟩) (Zm 2 Wv ZiU) (ZB.fail _ _))))⟩
abbrev ZZC:=cxU Za4 [Yr] 40 1048576
def Zgs:StS:=⟨[(1,.ptr 0 0),(3,.sl (.int .i64)),(5,.int .i64)],zh0,1⟩
def Ww:StS:=⟨[(1,.ptr 0 0),(3,.sl (.int .i64))],zh0,1⟩
def ZCP:StD Zgs→HC:=fun ((_,a,b,_),((c,d,e,f,_),_))=>(a,b,c,d,e,f)
def ZEz:HC→StD Zgs:=fun (a,b,c,d,e,f)=>(((),a,b,()),((c,d,e,f,()),()))
def ZVk:StD Ww→JF:=fun ((_,a,_),((b,c,d,e,_),_))=>(a,b,c,d,e)
def ZiV:JF→StD Ww:=fun (a,b,c,d,e)=>(((),a,()),((b,c,d,e,()),()))
def ZvC:Nat→Tm→Prog (Nat×Tm):=(varP 0 (fun T h=>(rdS Zgs T h).map ZCP) Zbm (altE 4 Ww ZiV) (fun _ _=>.fail))
def ZcV:Lpc:=⟨54,2,88,(fun base T=>.norm base (ZtS 0) T (ZvC base)),by kernel_rfl,by kernel_rfl,(loopU Za4 [Yr] 40 1048576 8 (keep:=ZtS) (q:=ZvC) (by kernel_rfl) (Zv (s:=Zgs) (un:=ZEz) (by rfl) (fun _=>rfl) (Zn (s:=Ww) (un:=ZiV) (flat:=ZVk) (by rfl) (fun _=>rfl)) (step:=Zrn) (fun _=>by kernel_rfl) (fun _ _ e=>⟨_,e⟩) (Zm 4 Ww ZiV) (ZB.fail _ _)))⟩
abbrev ZZE:=cxU Za4 [Yr,ZcV] 40 1048576
def Zgu:StS:=⟨[(1,.ptr 0 0),(3,.sl (.int .i64)),(6,.int .i64),(7,.int .i64)],zh0,1⟩
def Wy:StS:=⟨[(1,.ptr 0 0),(3,.sl (.int .i64)),(6,.int .i64)],zh0,1⟩
def ZCR:StD Zgu→HD:=fun ((_,a,b,c,_),((d,e,f,g,_),_))=>(a,b,c,d,e,f,g)
def ZEB:HD→StD Zgu:=fun (a,b,c,d,e,f,g)=>(((),a,b,c,()),((d,e,f,g,()),()))
def ZVm:StD Wy→Zdz:=fun ((_,a,b,_),((c,d,e,f,_),_))=>(a,b,c,d,e,f)
def ZiX:Zdz→StD Wy:=fun (a,b,c,d,e,f)=>(((),a,b,()),((c,d,e,f,()),()))
def ZvE:Nat→Tm→Prog (Nat×Tm):=(varP 0 (fun T h=>(rdS Zgu T h).map ZCR) Zbn (altE 8 Wy ZiX) (fun _ _=>.fail))
def Znb:Lpc:=⟨54,6,88,(fun base T=>.norm base (ZtU 0) T (ZvE base)),by kernel_rfl,by kernel_rfl,(loopU Za4 [Yr,ZcV] 40 1048576 8 (keep:=ZtU) (q:=ZvE) (by kernel_rfl) (Zv (s:=Zgu) (un:=ZEB) (by rfl) (fun _=>rfl) (Zn (s:=Wy) (un:=ZiX) (flat:=ZVm) (by rfl) (fun _=>rfl)) (step:=ZeZ) (fun _=>by kernel_rfl) (fun _ _ e=>⟨_,e⟩) (Zm 8 Wy ZiX) (ZB.fail _ _)))⟩
abbrev ZZD:=cxU Za4 [Yr,ZcV,Znb] 40 1048576
def Zgt:StS:=⟨[(1,.ptr 0 0),(3,.sl (.int .i64)),(6,.int .i64)],zh0,1⟩
def Wx:StS:=⟨[(3,.sl (.int .i64))],[],0⟩
def ZCQ:StD Zgt→Zby:=fun ((_,a,b,_),((c,d,e,f,_),_))=>(a,b,c,d,e,f)
def ZEA:Zby→StD Zgt:=fun (a,b,c,d,e,f)=>(((),a,b,()),((c,d,e,f,()),()))
def ZVl (d:StD Wx):Zdy:=(d.1.1)
def ZiW (x:Zdy):StD Wx:=((x,()),())
def ZvD:Nat→Tm→Prog (Nat×Tm):=(varP 0 (fun T h=>(rdS Zgt T h).map ZCQ) ZfX (altE 6 Wx ZiW) (fun _ _=>.fail))
def ZHZ:Lpc:=⟨54,4,88,(fun base T=>.norm base (ZtT 0) T (ZvD base)),by kernel_rfl,by kernel_rfl,(loopU Za4 [Yr,ZcV,Znb] 40 1048576 8 (keep:=ZtT) (q:=ZvD) (by kernel_rfl) (Zv (s:=Zgt) (un:=ZEA) (by rfl) (fun _=>rfl) (Zn (s:=Wx) (un:=ZiW) (flat:=ZVl) (by rfl) (fun _=>rfl)) (step:=Zan) (fun _=>by kernel_rfl) (fun _ _ e=>⟨_,e⟩) (Zm 6 Wx ZiW) (ZB.fail _ _)))⟩
def Zsq:=conP true ZNZ (.dat (.sl (.int .i64))) Zjk
theorem ZBL:Zf prog 54 Zsq:=Ze (calU Za4 [Yr,ZcV,Znb,ZHZ] 40 1048576 8 54) true (by rfl) (by rfl) (fun x r e=>(Zk _ _ _ _ _ _ _).trans ((show _=Zjk x by kernel_rfl).trans e)) (.inl rfl)
def Zp9:List Sh:=[.ptr 0 0,.int .i64,.int .i64,.dat tE]
def ZrV:List Con:=[⟨92,Zsl,ZBG⟩,⟨93,ZyJ,ZM5⟩,⟨49,Zsm,ZBH⟩]
def ZAl:List Sh:=[.int .i64,.int .i64,.dat tE]
def ZeF:List (Nat×BSh):=[(0,.box [.row 1,.row 2,.sl (.int .i64)]),(1,.row tE),(2,.row (.int .i64))]
theorem ZDx (a0 a1:Int) (a2:E) (b0:List Int) (b1:List E) (b2:List Int):evMX (cxU ZrV [] 40 1048576) keeps 8 57 Zp9 ZeF (.bool) ZeF (((),a0,a1,a2,()):(Unit×(Int×(Int×(E×Unit))))) ((((),(),b0,()),b1,b2,()):Zcx)=ZhG a0 a1 a2 b0 b1 b2:=by kernel_rfl
def Zqe:List AV→Prog AV:=meQ Zp9 ZeF (.bool) ZeF Vt
theorem ZD1:Zf prog 57 Zqe:=ZPB (ash:=ZAl) (calU ZrV [] 40 1048576 8 57) (by rfl) (by rfl) (by rfl) (fun x y r e=>(ZDx x.2.1 x.2.2.1 x.2.2.2.1 y.1.2.2.1 y.2.1 y.2.2.1).trans e)
def ZQx:List Sh:=[.dat tU,.dat (.int .i64),.dat (.sl tEn)]
def Zvd:Nat→List Nat:=fun c=>bif c.beq 0 then [1,2,3,6,7,8,9,10,11] else [1,2,3,6,7,8,9,10]
def Zvc:Nat→List Nat:=fun c=>bif c.beq 0 then [1,2,3,6,7,8,9] else [1,2,3,6,7,8,9]
def Zof:Nat→List Nat:=fun c=>bif c.beq 0 then [1,2,3,6,7,8,9,15,16,17] else [1,2,3,6,7,8,9,15]
def Zoe:Nat→List Nat:=fun c=>bif c.beq 0 then [1,2,3,6,7,8,9,15] else [6,8,9]
def ZcW:List Con:=[⟨54,Zsq,ZBL⟩,⟨55,Zqc,Zza⟩,⟨56,ZwM,ZIv⟩,⟨57,Zqe,ZD1⟩,⟨28,Zlj,Zo1⟩]
abbrev zh4:List (Nat×BSh):=[(0,.box [.sl (.int .i64),.sl (.int .i64),.int .i64,.sl tC]),(1,.box [.nil,.nil,.nil,.nil,.int .i64,.bool]),(2,.box [.row 3,.row 4,.sl (.int .i64)]),(3,.row tE),(4,.row (.int .i64)),(5,.box [.nil,.nil,.nil,.nil,.int .i64,.bool])]
def Zh0:StS:=⟨[(1,.int .i64),(2,.sl tEn),(3,.ptr 0 0),(6,.ptr 1 0),(7,.sl tA),(8,.ptr 2 0),(9,.ptr 5 0),(10,.bool),(11,.int .i64)],zh4,6⟩
def ZaJ:StS:=⟨[(1,.int .i64),(2,.sl tEn),(3,.ptr 0 0),(6,.ptr 1 0),(7,.sl tA),(8,.ptr 2 0),(9,.ptr 5 0),(10,.bool)],zh4,6⟩
def ZFM:StD Zh0→VI:=fun ((a,b,_,_,c,_,_,d,e,_),((f,g,h,i,_),(_,_,_,_,j,k,_),(_,_,l,_),m,n,(_,_,_,_,o,p,_),_))=>(a,b,c,d,e,f,g,h,i,j,k,l,m,n,o,p)
def ZGS:VI→StD Zh0:=fun (a,b,c,d,e,f,g,h,i,j,k,l,m,n,o,p)=>((a,b,(),(),c,(),(),d,e,()),((f,g,h,i,()),((),(),(),(),j,k,()),((),(),l,()),m,n,((),(),(),(),o,p,()),()))
def ZWR:StD ZaJ→Ka:=fun ((a,b,_,_,c,_,_,d,_),((e,f,g,h,_),(_,_,_,_,i,j,_),(_,_,k,_),l,m,(_,_,_,_,n,o,_),_))=>(a,b,c,d,e,f,g,h,i,j,k,l,m,n,o)
def Zj5:Ka→StD ZaJ:=fun (a,b,c,d,e,f,g,h,i,j,k,l,m,n,o)=>((a,b,(),(),c,(),(),d,()),((e,f,g,h,()),((),(),(),(),i,j,()),((),(),k,()),l,m,((),(),(),(),n,o,()),()))
def Zxy:Nat→Tm→Prog (Nat×Tm):=(varP 0 (fun T h=>(rdS Zh0 T h).map ZFM) ZcF (altE 4 ZaJ Zj5) (fun _ _=>.fail))
def Hh:Lpc:=⟨25,2,159,(fun base T=>.norm base (Zvd 0) T (Zxy base)),by kernel_rfl,by kernel_rfl,(loopU ZcW [] 40 (1048576 ^ 9) 8 (keep:=Zvd) (q:=Zxy) (by kernel_rfl) (Zv (s:=Zh0) (un:=ZGS) (by rfl) (fun _=>rfl) (Zn (s:=ZaJ) (un:=Zj5) (flat:=ZWR) (by rfl) (fun _=>rfl)) (step:=Zr7) (fun _=>by kernel_rfl) (fun _ _ e=>⟨_,e⟩) (Zm 4 ZaJ Zj5) (ZB.fail _ _)))⟩
abbrev Z0T:=cxU ZcW [Hh] 40 (1048576 ^ 9)
def ZhZ:StS:=⟨[(1,.int .i64),(2,.sl tEn),(3,.ptr 0 0),(6,.ptr 1 0),(7,.sl tA),(8,.ptr 2 0),(9,.ptr 5 0)],zh4,6⟩
def ZaI:StS:=⟨[(1,.int .i64),(2,.sl tEn),(3,.ptr 0 0),(6,.ptr 1 0),(7,.sl tA),(8,.ptr 2 0),(9,.ptr 5 0)],zh4,6⟩
def ZFL:StD ZhZ→ZcN:=fun ((a,b,_,_,c,_,_,_),((d,e,f,g,_),(_,_,_,_,h,i,_),(_,_,j,_),k,l,(_,_,_,_,m,n,_),_))=>(a,b,c,d,e,f,g,h,i,j,k,l,m,n)
def ZGR:ZcN→StD ZhZ:=fun (a,b,c,d,e,f,g,h,i,j,k,l,m,n)=>((a,b,(),(),c,(),(),()),((d,e,f,g,()),((),(),(),(),h,i,()),((),(),j,()),k,l,((),(),(),(),m,n,()),()))
def ZWQ:StD ZaI→Zel:=fun ((a,b,_,_,c,_,_,_),((d,e,f,g,_),(_,_,_,_,h,i,_),(_,_,j,_),k,l,(_,_,_,_,m,n,_),_))=>(a,b,c,d,e,f,g,h,i,j,k,l,m,n)
def Zj4:Zel→StD ZaI:=fun (a,b,c,d,e,f,g,h,i,j,k,l,m,n)=>((a,b,(),(),c,(),(),()),((d,e,f,g,()),((),(),(),(),h,i,()),((),(),j,()),k,l,((),(),(),(),m,n,()),()))
def Zxx:Nat→Tm→Prog (Nat×Tm):=(varP 0 (fun T h=>(rdS ZhZ T h).map ZFL) Zhm (altE 2 ZaI Zj4) (fun _ _=>.fail))
def ZdU:Lpc:=⟨25,0,159,(fun base T=>.norm base (Zvc 0) T (Zxx base)),by kernel_rfl,by kernel_rfl,(loopU ZcW [Hh] 40 (1048576 ^ 9) 8 (keep:=Zvc) (q:=Zxx) (by kernel_rfl) (Zv (s:=ZhZ) (un:=ZGR) (by rfl) (fun _=>rfl) (Zn (s:=ZaI) (un:=Zj4) (flat:=ZWQ) (by rfl) (fun _=>rfl)) (step:=HM) (fun _=>by kernel_rfl) (fun _ _ e=>⟨_,e⟩) (Zm 2 ZaI Zj4) (ZB.fail _ _)))⟩
abbrev Z0V:=cxU ZcW [Hh,ZdU] 40 (1048576 ^ 9)
def Zh2:StS:=⟨[(1,.int .i64),(2,.sl tEn),(3,.ptr 0 0),(6,.ptr 1 0),(7,.sl tA),(8,.ptr 2 0),(9,.ptr 5 0),(15,.int .i64),(16,.ptr 9 0),(17,.int .i64)],[(0,.box [.sl (.int .i64),.sl (.int .i64),.int .i64,.sl tC]),(1,.box [.nil,.nil,.nil,.nil,.int .i64,.bool]),(2,.box [.row 3,.row 4,.sl (.int .i64)]),(3,.row tE),(4,.row (.int .i64)),(5,.box [.nil,.row 6,.row 7,.row 8,.int .i64,.bool]),(6,.row tEn),(7,.row tAc),(8,.row tAl),(9,.box [.bool,.sl tI,.sl tI,.sl tI,.int .i64,.int .i64,.bool,.sl tI,.sl tI,.sl tI,.int .i64,.int .i64,.sl (.int .i64),.sl tEn,.sl tAc])],10⟩
abbrev zh7:List (Nat×BSh):=[(0,.box [.sl (.int .i64),.sl (.int .i64),.int .i64,.sl tC]),(1,.box [.nil,.nil,.nil,.nil,.int .i64,.bool]),(2,.box [.row 3,.row 4,.sl (.int .i64)]),(3,.row tE),(4,.row (.int .i64)),(5,.box [.nil,.row 6,.row 7,.row 8,.int .i64,.bool]),(6,.row tEn),(7,.row tAc),(8,.row tAl)]
def ZaL:StS:=⟨[(1,.int .i64),(2,.sl tEn),(3,.ptr 0 0),(6,.ptr 1 0),(7,.sl tA),(8,.ptr 2 0),(9,.ptr 5 0),(15,.int .i64)],zh7,9⟩
def ZFO:StD Zh2→VJ:=fun ((a,b,_,_,c,_,_,d,_,e,_),((f,g,h,i,_),(_,_,_,_,j,k,_),(_,_,l,_),m,n,(_,_,_,_,o,p,_),q,r,s,(t,u,w,y,z,au,aw,ay,az,bu,bw,bz,cu,cw,cy,_),_))=>(a,b,c,d,e,f,g,h,i,j,k,l,m,n,o,p,q,r,s,t,u,w,y,z,au,aw,ay,az,bu,bw,bz,cu,cw,cy)
def ZGU:VJ→StD Zh2:=fun (a,b,c,d,e,f,g,h,i,j,k,l,m,n,o,p,q,r,s,t,u,w,y,z,au,aw,ay,az,bu,bw,bz,cu,cw,cy)=>((a,b,(),(),c,(),(),d,(),e,()),((f,g,h,i,()),((),(),(),(),j,k,()),((),(),l,()),m,n,((),(),(),(),o,p,()),q,r,s,(t,u,w,y,z,au,aw,ay,az,bu,bw,bz,cu,cw,cy,()),()))
def ZWT:StD ZaL→Kb:=fun ((a,b,_,_,c,_,_,d,_),((e,f,g,h,_),(_,_,_,_,i,j,_),(_,_,k,_),l,m,(_,_,_,_,n,o,_),p,q,r,_))=>(a,b,c,d,e,f,g,h,i,j,k,l,m,n,o,p,q,r)
def Zj7:Kb→StD ZaL:=fun (a,b,c,d,e,f,g,h,i,j,k,l,m,n,o,p,q,r)=>((a,b,(),(),c,(),(),d,()),((e,f,g,h,()),((),(),(),(),i,j,()),((),(),k,()),l,m,((),(),(),(),n,o,()),p,q,r,()))
def ZxA:Nat→Tm→Prog (Nat×Tm):=(varP 0 (fun T h=>(rdS Zh2 T h).map ZFO) ZcG (altE 8 ZaL Zj7) (fun _ _=>.fail))
def Zoi:Lpc:=⟨25,6,159,(ownP [(5,3,tAl)] [] (Zof 0) (fun base T=>.norm base (Zof 0) T (ZxA base))),by kernel_rfl,by kernel_rfl,(Ja (loopU ZcW [Hh,ZdU] 40 (1048576 ^ 9) 8 (keep:=Zof) (q:=ZxA) (by kernel_rfl) (Zv (s:=Zh2) (un:=ZGU) (by rfl) (fun _=>rfl) (Zn (s:=ZaL) (un:=Zj7) (flat:=ZWT) (by rfl) (fun _=>rfl)) (step:=Zr8) (fun _=>by kernel_rfl) (fun _ _ e=>⟨_,e⟩) (Zm 8 ZaL Zj7) (ZB.fail _ _))))⟩
abbrev Z0U:=cxU ZcW [Hh,ZdU,Zoi] 40 (1048576 ^ 9)
def Zh1:StS:=⟨[(1,.int .i64),(2,.sl tEn),(3,.ptr 0 0),(6,.ptr 1 0),(7,.sl tA),(8,.ptr 2 0),(9,.ptr 5 0),(15,.int .i64)],zh7,9⟩
def ZaK:StS:=⟨[(6,.ptr 0 0),(8,.ptr 1 0),(9,.ptr 4 0)],[(0,.box [.nil,.nil,.nil,.nil,.int .i64,.bool]),(1,.box [.row 2,.row 3,.sl (.int .i64)]),(2,.row tE),(3,.row (.int .i64)),(4,.box [.nil,.row 5,.row 6,.row 7,.int .i64,.bool]),(5,.row tEn),(6,.row tAc),(7,.row tAl)],8⟩
def ZFN:StD Zh1→ZcO:=fun ((a,b,_,_,c,_,_,d,_),((e,f,g,h,_),(_,_,_,_,i,j,_),(_,_,k,_),l,m,(_,_,_,_,n,o,_),p,q,r,_))=>(a,b,c,d,e,f,g,h,i,j,k,l,m,n,o,p,q,r)
def ZGT:ZcO→StD Zh1:=fun (a,b,c,d,e,f,g,h,i,j,k,l,m,n,o,p,q,r)=>((a,b,(),(),c,(),(),d,()),((e,f,g,h,()),((),(),(),(),i,j,()),((),(),k,()),l,m,((),(),(),(),n,o,()),p,q,r,()))
def ZWS:StD ZaK→Zem:=fun ((_,_,_,_),((_,_,_,_,a,b,_),(_,_,c,_),d,e,(_,_,_,_,f,g,_),h,i,j,_))=>(a,b,c,d,e,f,g,h,i,j)
def Zj6:Zem→StD ZaK:=fun (a,b,c,d,e,f,g,h,i,j)=>(((),(),(),()),(((),(),(),(),a,b,()),((),(),c,()),d,e,((),(),(),(),f,g,()),h,i,j,()))
def Zxz:Nat→Tm→Prog (Nat×Tm):=(varP 0 (fun T h=>(rdS Zh1 T h).map ZFN) Zhn (altE 6 ZaK Zj6) (fun _ _=>.fail))
def ZJG:Lpc:=⟨25,4,159,(ownP [(5,1,tEn),(5,2,tAc),(5,3,tAl)] [] (Zoe 0) (fun base T=>.norm base (Zoe 0) T (Zxz base))),by kernel_rfl,by kernel_rfl,(Ja (loopU ZcW [Hh,ZdU,Zoi] 40 (1048576 ^ 9) 8 (keep:=Zoe) (q:=Zxz) (by kernel_rfl) (Zv (s:=Zh1) (un:=ZGT) (by rfl) (fun _=>rfl) (Zn (s:=ZaK) (un:=Zj6) (flat:=ZWS) (by rfl) (fun _=>rfl)) (step:=ZbT) (fun _=>by kernel_rfl) (fun _ _ e=>⟨_,e⟩) (Zm 6 ZaK Zj6) (ZB.fail _ _))))⟩
def Zid (x:(U×(Int×((List En)×Unit)))):Option Re:=ZlB x.1 x.2.1 x.2.2.1
def ZuA:=conP true ZQx (.dat tR) Zid
theorem ZE7:Zf prog 25 ZuA:=Ze (calU ZcW [Hh,ZdU,Zoi,ZJG] 40 (1048576 ^ 9) 8 25) true (by rfl) (by rfl) (fun x r e=>(Zk _ _ _ _ _ _ _).trans ((show _=Zid x by kernel_rfl).trans e)) (.inl rfl)
section
open Go.Proofs
theorem ZH1 {a b c:List I} (h:leR a b) (k:leR b c):leR a c:=by
 refine ⟨h.1.trans k.1,fun i x z hx hz=>?_⟩
 have hi:i<a.length:=(List.getElem?_eq_some_iff.1 hx).1
 have hy:b[i]? = some (b[i]'(by rw [← h.1];exact hi)):=List.getElem?_eq_getElem _
 exact KH (h.2 i x _ hx hy) (k.2 i _ z hy hz)
theorem ZNh {a b c:Int} (h:subB a b) (k:subB b c):subB a c:=fun i q=>k i (h i q)
theorem ZP3 (a:Int):subB a a:=fun i q=>q
theorem ZLt {x:E} (h:x.1=true):leE x x:=⟨h,ZLu _,ZLu _,ZLu _,ZP3 _,ZP3 _⟩
theorem ZPz {x y z:E} (h:leE x y) (k:leE y z):leE x z:=⟨k.on,ZH1 h.v k.v,ZH1 h.g k.g,ZH1 h.a k.a,ZNh k.must h.must,ZNh h.may k.may⟩
theorem Zxb (x:E):leO x x:=fun h=>ZLt h
theorem Zpx {x y z:E} (h:leO x y) (k:leO y z):leO x z:=fun q=>ZPz (h q) (k (h q).on)
theorem Zsd {x y:Int} (hx:okB x) (hy:okB y):andI x y=((x.toNat &&& y.toNat:Nat):Int):=by
 unfold okB at *
 have h:=ZCg (a:=x.toNat) (b:=y.toNat) (by omega) (by omega)
 rw [show ((x.toNat:Nat):Int)=x by omega,show ((y.toNat:Nat):Int)=y by omega] at h
 exact h
theorem ZI6 {x y:Int} (hx:okB x) (hy:okB y):orI x y=((x.toNat ||| y.toNat:Nat):Int):=by
 unfold okB at *
 have h:=ZTg (a:=x.toNat) (b:=y.toNat) (by omega) (by omega)
 rw [show ((x.toNat:Nat):Int)=x by omega,show ((y.toNat:Nat):Int)=y by omega] at h
 exact h
theorem Z5U {x y:Int} (hx:okB x) (hy:okB y):subB (andI x y) x:=fun i q=>by
 rw [Zsd hx hy,tN0,Nat.testBit_and,Bool.and_eq_true] at q
 exact q.1
theorem Z2n {x y:Int} (hx:okB x) (hy:okB y):subB (andI x y) y:=fun i q=>by
 rw [Zsd hx hy,tN0,Nat.testBit_and,Bool.and_eq_true] at q
 exact q.2
theorem Z6U {x y:Int} (hx:okB x) (hy:okB y):subB x (orI x y):=fun i q=>by
 rw [ZI6 hx hy,tN0,Nat.testBit_or,q,Bool.true_or]
theorem Z6V {x y:Int} (hx:okB x) (hy:okB y):subB y (orI x y):=fun i q=>by
 rw [ZI6 hx hy,tN0,Nat.testBit_or,q,Bool.or_true]
theorem ZUe {F:I→I→I} {a b:List I} {i:Nat} {z:I} (h:(zipI F a b)[i]? = some z):∃ x,a[i]? = some x∧z=F x (rowAt b i):=by
 unfold zipI at h
 rw [List.getElem?_mapIdx] at h
 cases e:a[i]? with
 | none=>rw [e] at h;cases h
 | some x=>rw [e] at h;exact ⟨x,rfl,(Option.some.inj h).symm⟩
theorem ZBm {b:List I} {i:Nat} {y:I} (h:b[i]? = some y):rowAt b i=y:=by unfold rowAt;rw [h];rfl
theorem ZOX {F:I→I→I} (hF:upF F) {a b:List I} (hl:a.length=b.length) (ha:∀ x∈a,isB x=true) (hb:∀ x∈b,isB x=true):leR a (zipI F a b):=by
 refine ⟨(Zww F a b).symm,fun i x z hx hz=>?_⟩
 obtain ⟨x',h1,rfl⟩:=ZUe hz
 rw [hx] at h1;cases h1
 have hi:i<b.length:=by rw [← hl];exact (List.getElem?_eq_some_iff.1 hx).1
 rw [ZBm (List.getElem?_eq_getElem hi)]
 exact (hF x b[i] (ha x (mG0 hx)) (hb _ (List.getElem_mem hi))).1
theorem ZOY {F:I→I→I} (hF:upF F) {a b:List I} (hl:a.length=b.length) (ha:∀ x∈a,isB x=true) (hb:∀ x∈b,isB x=true):leR b (zipI F a b):=by
 refine ⟨by rw [Zww,hl],fun i y z hy hz=>?_⟩
 obtain ⟨x,h1,rfl⟩:=ZUe hz
 rw [ZBm hy]
 exact (hF x y (ha x (mG0 h1)) (hb y (mG0 hy))).2
def upL (es es':List E):Prop:=∀ (i:Nat) (x:E),es[i]? = some x→∃ y,es'[i]? = some y∧leO x y
theorem ZEF (es:List E):upL es es:=fun i x h=>⟨x,h,Zxb x⟩
theorem Zzo {a b c:List E} (h:upL a b) (k:upL b c):upL a c:=fun i x hx=>by
 obtain ⟨y,hy,q⟩:=h i x hx
 obtain ⟨z,hz,w⟩:=k i y hy
 exact ⟨z,hz,Zpx q w⟩
theorem ZXD {a b:E} (ha:a.1=true) (h:sameE a b=true):a=b:=by
 cases hb:b.1
 ·unfold sameE at h
  rw [ha,hb] at h
  have h':(true==false)=true:=h
  exact absurd h' (by decide)
 ·exact Z13 ha hb h
section
variable {u:U} {t:Int} {l:List En} {st:List Int} {c:C} {a b:E}
theorem ZN6 (ha:envOK u t a) (hb:envOK u t b):a.2.1.length=b.2.1.length∧a.2.2.1.length=b.2.2.1.length∧a.2.2.2.1.length=b.2.2.2.1.length:=by
 obtain ⟨c,hc,h1⟩:=ha.c
 obtain ⟨c',hc',h2⟩:=hb.c
 rw [hc] at hc';cases hc'
 have:=ha.g
 have:=hb.g
 have:=ha.a
 have:=hb.a
 exact ⟨by omega,by omega,by omega⟩
theorem Z26 {F:I→I→I} (hF:upF F) (ha:envOK u t a) (hb:envOK u t b):leE a (mrg F a b):=by
 obtain ⟨l1,l2,l3⟩:=ZN6 ha hb
 exact ⟨rfl,ZOX hF l1 (fun x k=>(envV ha x k).1) fun x k=>(envV hb x k).1,ZOX hF l2 (fun x k=>(envG ha x k).1) fun x k=>(envG hb x k).1,ZOX hF l3 (fun x k=>(envA ha x k).1) fun x k=>(envA hb x k).1,Z5U ha.must hb.must,Z6U ha.may hb.may⟩
theorem Z27 {F:I→I→I} (hF:upF F) (ha:envOK u t a) (hb:envOK u t b):leE b (mrg F a b):=by
 obtain ⟨l1,l2,l3⟩:=ZN6 ha hb
 exact ⟨rfl,ZOY hF l1 (fun x k=>(envV ha x k).1) fun x k=>(envV hb x k).1,ZOY hF l2 (fun x k=>(envG ha x k).1) fun x k=>(envG hb x k).1,ZOY hF l3 (fun x k=>(envA ha x k).1) fun x k=>(envA hb x k).1,Z2n ha.must hb.must,Z6V ha.may hb.may⟩
theorem ZHJ {F:I→I→I} (hF:upF F) (ha1:a.1=true) (ha:envOK u t a) (hb:b.1=true→envOK u t b):leE a (eJoin F a b):=by
 unfold eJoin
 rw [ha1,cond_true]
 cases hb1:b.1
 ·exact ZLt ha1
 ·exact Z26 hF ha (hb hb1)
theorem ZHK {F:I→I→I} (hF:upF F) (ha:a.1=true→envOK u t a) (hb1:b.1=true) (hb:envOK u t b):leE b (eJoin F a b):=by
 unfold eJoin
 rw [hb1]
 cases ha1:a.1
 ·exact ZLt hb1
 ·exact Z27 hF (ha ha1) hb
theorem Z0b {fr to:Int} {old e:E} {n:Int} (ho:okE u t old) (he1:e.1=true) (he:envOK u t e):leE e (nxtV st fr to old e n)∧leO old (nxtV st fr to old e n):=by
 have k1:=ZlD (F:=Zg) (a:=old) he1
 have k2:=ZmQ Zxh ho.env (fun _=>he) k1
 have u1:=ZHK Zns ho.env he1 he
 have u2:leO old (eJoin Zg old e):=fun h=>ZHJ Zns h (ho.env h) fun _=>he
 unfold nxtV
 split
 ·exact ⟨ZPz u1 (ZHK (ZCf st) ho.env k1 k2),fun h=>ZHJ (ZCf st) h (ho.env h) fun _=>k2⟩
 ·exact ⟨u1,u2⟩
theorem ZMd {fr to:Int} {e:E} {es:List E} {ns:List Int} (hes:∀ x∈es,okE u t x) (he:e.1=true→envOK u t e) (h1:to.toNat<es.length) (hl:ns.length=es.length) (h:(comeV st fr to e es ns).1=false) :
  comeV st fr to e es ns=(false,es,ns)∧∃ y,es[to.toNat]? = some y∧leO e y:=by
 have g1:es[to.toNat]? = some es[to.toNat]:=List.getElem?_eq_getElem h1
 have g2:ns[to.toNat]? = some (ns[to.toNat]'(by omega)):=List.getElem?_eq_getElem _
 have ho:=hes _ (List.getElem_mem h1)
 generalize es[to.toNat]=old at g1 ho
 generalize ns[to.toNat]'(by omega)=n at g2
 unfold comeV at h ⊢
 cases he1:e.1
 ·exact ⟨by simp only [he1,g1,g2],old,g1,fun k=>by rw [he1] at k;cases k⟩
 ·simp only [he1,g1,g2] at h ⊢
  cases q:sameE (nxtV st fr to old e n) old
  ·rw [q] at h;cases h
  ·refine ⟨rfl,old,rfl,fun _=>?_⟩
   have hn:=Z0a (st:=st) (fr:=fr) (to:=to) (n:=n) ho he1 (he he1)
   have k:=(Z0b (st:=st) (fr:=fr) (to:=to) (n:=n) ho he1 (he he1)).1
   rw [ZXD hn.1 q] at k
   exact k
theorem ZWl {fr to:Int} {e:E} {es:List E} {ns:List Int} (hes:∀ x∈es,okE u t x) (he:e.1=true→envOK u t e):upL es (comeV st fr to e es ns).2.1:=by
 intro i x hx
 have keep:∃ y,es[i]? = some y∧leO x y:=⟨x,hx,Zxb x⟩
 unfold comeV
 split
 ·rename_i old n he1 g1 g2
  cases sameE (nxtV st fr to old e n) old
  ·simp only [cond_false]
   by_cases q:to.toNat=i
   ·subst q
    rw [g1] at hx;cases hx
    exact ⟨_,List.getElem?_set_self ((List.getElem?_eq_some_iff.1 g1).1),(Z0b (hes _ (mG0 g1)) he1 (he he1)).2⟩
   ·exact ⟨x,by rw [List.getElem?_set_ne q];exact hx,Zxb x⟩
  ·exact keep
 ·exact keep
def Vs (u:U) (t:Int) (l:List En) (es:List E) (i:Nat) (d:A):Prop:=
 ∃ x y,es[d.2.2.2.2.2.2.2.1.toNat]? = some x∧es[d.2.2.2.2.2.2.2.2.toNat]? = some y∧leO (outV u t i ((es[i]?).getD offE) l).1 x∧leO (outV u t i ((es[i]?).getD offE) l).2.1 y
theorem Z1K (hu:unitOK u) (ht:0≤t) (hl:tabOK l) (hn:l.length≤1000) (hc:u.2.2.2[t.toNat]? = some c) {s:St3} (v:Inv u t c.2.length s.2.1 s.2.2) {i:Nat} {d:A} (hd:c.2[i]? = some d) :
  Inv u t c.2.length (nodeV u t l st i s d).2.1 (nodeV u t l st i s d).2.2∧upL s.2.1 (nodeV u t l st i s d).2.1 ∧
  ((nodeV u t l st i s d).1=false→nodeV u t l st i s d=s∧s.1=false∧Vs u t l s.2.1 i d):=by
 obtain ⟨b,es,ns⟩:=s
 simp only at v
 have hi:=(List.getElem?_eq_some_iff.1 hd).1
 have ha:=(hu.ts c (mG0 hc)).a d (mG0 hd)
 have hie:i<es.length:=by rw [v.le];exact hi
 have ge:es[i]? = some es[i]:=List.getElem?_eq_getElem hie
 obtain ⟨_,_,o3,_⟩:=Znh hu ht hl hn hc (v.ok _ (List.getElem_mem hie)) hi
 have hx:=ha.nx
 have hy:=ha.el
 have ve:=v.le
 have vn:=v.ln
 have hN:nodeV u t l st i (b,es,ns) d=(b||(comeV st i d.2.2.2.2.2.2.2.1 (outV u t i es[i] l).1 es ns).1||(comeV st i d.2.2.2.2.2.2.2.2 (outV u t i es[i] l).2.1 (comeV st i d.2.2.2.2.2.2.2.1 (outV u t i es[i] l).1 es ns).2.1 (comeV st i d.2.2.2.2.2.2.2.1 (outV u t i es[i] l).1 es ns).2.2).1,
   (comeV st i d.2.2.2.2.2.2.2.2 (outV u t i es[i] l).2.1 (comeV st i d.2.2.2.2.2.2.2.1 (outV u t i es[i] l).1 es ns).2.1 (comeV st i d.2.2.2.2.2.2.2.1 (outV u t i es[i] l).1 es ns).2.2).2):=by
  unfold nodeV
  simp only [ge,Option.getD_some]
 rw [hN]
 have hA:Vs u t l es i d↔∃ x y,es[d.2.2.2.2.2.2.2.1.toNat]? = some x∧es[d.2.2.2.2.2.2.2.2.toNat]? = some y∧leO (outV u t i es[i] l).1 x∧leO (outV u t i es[i] l).2.1 y:=by
  unfold Vs
  simp only [ge,Option.getD_some]
 simp only [hA]
 clear hN hA
 generalize outV u t i es[i] l=o at o3
 have c1:=ZIW (st:=st) (fr:=(i:Int)) (to:=d.2.2.2.2.2.2.2.1) (e:=o.1) (ns:=ns) v.ok o3.nx
 have u1:=ZWl (st:=st) (fr:=(i:Int)) (to:=d.2.2.2.2.2.2.2.1) (e:=o.1) (ns:=ns) v.ok o3.nx
 have s1:=ZMd (st:=st) (fr:=(i:Int)) (to:=d.2.2.2.2.2.2.2.1) (e:=o.1) (ns:=ns) v.ok o3.nx (by omega) (by omega)
 generalize comeV st i d.2.2.2.2.2.2.2.1 o.1 es ns=r at c1 u1 s1
 have c2:=ZIW (st:=st) (fr:=(i:Int)) (to:=d.2.2.2.2.2.2.2.2) (e:=o.2.1) (ns:=r.2.2) c1.1 o3.el
 have u2:=ZWl (st:=st) (fr:=(i:Int)) (to:=d.2.2.2.2.2.2.2.2) (e:=o.2.1) (ns:=r.2.2) c1.1 o3.el
 have s2:=ZMd (st:=st) (fr:=(i:Int)) (to:=d.2.2.2.2.2.2.2.2) (e:=o.2.1) (ns:=r.2.2) c1.1 o3.el (by omega) (by omega)
 generalize comeV st i d.2.2.2.2.2.2.2.2 o.2.1 r.2.1 r.2.2=q at c2 u2 s2
 refine ⟨⟨c2.1,c2.2.1.trans (c1.2.1.trans v.le),c2.2.2.trans (c1.2.2.trans v.ln)⟩,Zzo u1 u2,fun h=>?_⟩
 simp only [Bool.or_eq_false_iff] at h
 obtain ⟨⟨rfl,h1⟩,h2⟩:=h
 obtain ⟨rfl,x,gx,lx⟩:=s1 h1
 obtain ⟨rfl,y,gy,ly⟩:=s2 h2
 exact ⟨rfl,rfl,x,y,gx,gy,lx,ly⟩
theorem ZPT (hu:unitOK u) (ht:0≤t) (hl:tabOK l) (hn:l.length≤1000) (hc:u.2.2.2[t.toNat]? = some c):∀ (r:List A) (i:Nat) (s:St3),c.2.drop i=r→Inv u t c.2.length s.2.1 s.2.2→
  Inv u t c.2.length (ZK (fun i s d=>nodeV u t l st i s d) i r s).2.1 (ZK (fun i s d=>nodeV u t l st i s d) i r s).2.2∧upL s.2.1 (ZK (fun i s d=>nodeV u t l st i s d) i r s).2.1 ∧
  ((ZK (fun i s d=>nodeV u t l st i s d) i r s).1=false→ZK (fun i s d=>nodeV u t l st i s d) i r s=s∧s.1=false∧∀ (j:Nat) (d:A),r[j]? = some d→Vs u t l s.2.1 (i+j) d)
 | [],i,s,_,v=>⟨v,ZEF _,fun h=>⟨rfl,h,fun j d k=>by simp at k⟩⟩
 | d::r,i,s,hd,v=>by
  have e:c.2[i]? = some d:=by
   have:=congrArg (fun q=>q[0]?) hd
   simpa using this
  obtain ⟨n1,n2,n3⟩:=Z1K (st:=st) hu ht hl hn hc v e
  obtain ⟨h1,h2,h3⟩:=ZPT hu ht hl hn hc r (i+1) (nodeV u t l st i s d) (by rw [← List.drop_drop,hd];rfl) n1
  rw [ZK]
  refine ⟨h1,Zzo n2 h2,fun h=>?_⟩
  obtain ⟨k1,k2,k3⟩:=h3 h
  obtain ⟨q1,q2,q3⟩:=n3 k2
  rw [q1] at k1 k3
  refine ⟨by rw [q1];exact k1,q2,fun j d' hj=>?_⟩
  cases j with
  | zero=>rw [List.getElem?_cons_zero] at hj;cases hj;exact q3
  | succ j=>
   rw [List.getElem?_cons_succ] at hj
   have:=k3 j d' hj
   rw [show i+(j+1)=i+1+j by omega]
   exact this
end
end
section
open Go.Proofs
def rdV (L:List I) (i:Int):I:=(L[i.toNat]?).getD nn
def notI (op:Int):Int:=(Ztz op).getD 0
def oV (u:U) (t n:Int) (e:E) (l:List En) (a:A):O:=
 match a with
 | (k,T,X,Y,G,N,op,nx,el)=>
  bif !e.1 then (offE,offE,[],[],[]) else
  bif k==1 then (setE e T (N,N),offE,[],[],[]) else
  bif k==2 then (setE e T (rdV e.2.1 X),offE,[],[],[]) else
  bif k==3 then (setE e T (-2147483648,2147483647),offE,[],[],[]) else
  bif k==4 then (bif Zd (doI op (rdV e.2.1 X) (rdV e.2.1 Y)).1 then offE else setE e T (doI op (rdV e.2.1 X) (rdV e.2.1 Y)).1,offE,(bif (doI op (rdV e.2.1 X) (rdV e.2.1 Y)).2.1 then [7] else [])++(bif (doI op (rdV e.2.1 X) (rdV e.2.1 Y)).2.2 then [8] else []),[],[]) else
  bif k==5 then (setE e T (readV (rdV e.2.2.1 G) l t false G e.2.2.2.2.1),offE,[],[],[(t,n,false,G,false,e.2.2.2.2.1)]) else
  bif k==6 then ((e.1,e.2.1,e.2.2.1.set G.toNat (rdV e.2.1 X),e.2.2.2),offE,[],[(t,false,G,e.2.2.2.2.1,rdV e.2.1 X)],[(t,n,false,G,true,e.2.2.2.2.1)]) else
  bif k==7 then (bif Zd (mSpan (rdV e.2.1 X) (0,(u.2.1[G.toNat]?).getD 0 - 1)) then offE else setE (setE e X (mSpan (rdV e.2.1 X) (0,(u.2.1[G.toNat]?).getD 0 - 1))) T (readV (rdV e.2.2.2.1 G) l t true G e.2.2.2.2.1),offE,(bif leqB (rdV e.2.1 X) (0,(u.2.1[G.toNat]?).getD 0 - 1) then [] else [9]),[],[(t,n,true,G,false,e.2.2.2.2.1)]) else
  bif k==8 then (bif Zd (mSpan (rdV e.2.1 X) (0,(u.2.1[G.toNat]?).getD 0 - 1)) then offE else (e.1,e.2.1.set X.toNat (mSpan (rdV e.2.1 X) (0,(u.2.1[G.toNat]?).getD 0 - 1)),e.2.2.1,e.2.2.2.1.set G.toNat (rJoin (rdV e.2.2.2.1 G) (rdV (e.2.1.set X.toNat (mSpan (rdV e.2.1 X) (0,(u.2.1[G.toNat]?).getD 0 - 1))) Y)),e.2.2.2.2),offE,(bif leqB (rdV e.2.1 X) (0,(u.2.1[G.toNat]?).getD 0 - 1) then [] else [9]),[(t,true,G,e.2.2.2.2.1,rdV e.2.1 Y)],[(t,n,true,G,true,e.2.2.2.2.1)]) else
  bif k==9 then (bif tb e.2.2.2.2.1 G then offE else (e.1,e.2.1,gmap l t false e.2.2.2.2.1 G e.2.2.1,gmap l t true e.2.2.2.2.1 G e.2.2.2.1,wiI e.2.2.2.2.1 G,wiI e.2.2.2.2.2 G),offE,(bif tb e.2.2.2.2.2 G then [11] else []),[],[]) else
  bif k==10 then (bif tb e.2.2.2.2.2 G then (e.1,e.2.1,e.2.2.1,e.2.2.2.1,woI e.2.2.2.2.1 G,woI e.2.2.2.2.2 G) else offE,offE,(bif tb e.2.2.2.2.1 G then [] else [12]),[],[]) else
  bif k==11 then (sideV e X Y op (rdV e.2.1 X) (rdV e.2.1 Y),sideV e X Y (notI op) (rdV e.2.1 X) (rdV e.2.1 Y),[],[],[]) else
  bif k==12 then (e,offE,[],[],[]) else
  bif k==13 then (offE,offE,[10],[],[]) else (offE,offE,[],[],[])
theorem Zcc {L:List I} {i:Int} {x:I} (h:L[i.toNat]? = some x):rdV L i=x:=by unfold rdV;rw [h];rfl
variable {u:U} {t n:Int} {e:E} {l:List En} {c:C}
theorem Z4g (hu:unitOK u) (ht:0≤t) (hl:tabOK l) (hn:l.length≤1000) (he:e.1=true→envOK u t e) (h1:0≤n) (hc:u.2.2.2[t.toNat]? = some c) {a:A} (ga:c.2[n.toNat]? = some a) :
  Za2 u t n e l=some (oV u t n e l a):=by
 have h2:n<(c.2.length:Int):=by have:=(List.getElem?_eq_some_iff.1 ga).1;omega
 cases he1:e.1
 ·obtain ⟨on,V,G,A,must,may⟩:=e
  cases he1
  have e0:decide (0≤t)=true:=dT0 ht
  have e1:decide (0≤n)=true:=dT0 h1
  unfold Za2
  rw [e0,hc,e1,cond_true,Zb,cond_true,ga,Zb]
  rfl
 have hE:=he he1
 have ha:=(hu.ts c (mG0 hc)).a a (mG0 ga)
 rw [ZRf u t n e l c a ht hc h1 ga he1]
 have hle:=hl.e
 obtain ⟨cc,hc',hv⟩:=hE.c
 obtain rfl:cc=c:=by rw [hc] at hc';exact (Option.some.inj hc').symm
 have vx:∀ {X:Int},0≤X∧X<cc.1→∃ x,e.2.1[X.toNat]? = some x:=fun {X} h=>ZL e.2.1 X (by omega)
 have gx:∀ {G:Int},0≤G∧G<(u.1.length:Int)→∃ x,e.2.2.1[G.toNat]? = some x:=fun {G} h=>ZL e.2.2.1 G (by rw [hE.g];exact h)
 have ax:∀ {G:Int},0≤G∧G<(u.2.1.length:Int)→∃ x m,e.2.2.2.1[G.toNat]? = some x∧u.2.1[G.toNat]? = some m:=fun {G} h=>by
  obtain ⟨x,gx⟩:=ZL e.2.2.2.1 G (by rw [hE.a];exact h)
  obtain ⟨m,gm⟩:=ZL u.2.1 G h
  exact ⟨x,m,gx,gm⟩
 obtain ⟨k,T,X,Y,G,N,op,nx,el⟩:=a
 have k1:1≤k:=ha.k1
 have k2:k≤14:=ha.k2
 have hk:k=1∨k=2∨k=3∨k=4∨k=5∨k=6∨k=7∨k=8∨k=9∨k=10∨k=11∨k=12∨k=13∨k=14:=by omega
 rcases hk with rfl | rfl | rfl | rfl | rfl | rfl | rfl | rfl | rfl | rfl | rfl | rfl | rfl | rfl
 ·rw [ZRr u t n e l cc T X Y G N op nx el hu hle hn hE hc ha]
  simp only [oV,he1,Bool.not_true,cond_false];rfl
 ·obtain ⟨x,g1⟩:=vx (Zy.1 ha.h2)
  rw [ZRs u t n e l cc T X Y G N op nx el g1 hu hle hn hE hc ha]
  simp only [oV,he1,Bool.not_true,cond_false,Zcc g1];rfl
 ·rw [ZRt u t n e l cc T X Y G N op nx el hu hle hn hE hc ha]
  simp only [oV,he1,Bool.not_true,cond_false];rfl
 ·obtain ⟨x,g1⟩:=vx (Zy.1 ha.h2)
  obtain ⟨y,g2⟩:=vx (Zy.1 ha.h3)
  rw [ZRu u t n e l cc T X Y G N op nx el g1 g2 hu hle hn hE hc ha]
  simp only [oV,he1,Bool.not_true,cond_false,Zcc g1,Zcc g2];rfl
 ·obtain ⟨x,g1⟩:=gx (Zy.1 ha.h4)
  rw [ZRv u t n e l cc T X Y G N op nx el g1 hu hle hn hE hc ha]
  simp only [oV,he1,Bool.not_true,cond_false,Zcc g1];rfl
 ·obtain ⟨x,g1⟩:=vx (Zy.1 ha.h2)
  rw [ZRw u t n e l cc T X Y G N op nx el g1 hu hle hn hE hc ha]
  simp only [oV,he1,Bool.not_true,cond_false,Zcc g1];rfl
 ·obtain ⟨x,g1⟩:=vx (Zy.1 ha.h2)
  obtain ⟨d,m,g2,gm⟩:=ax (Zy.1 ha.h4)
  rw [ZRx u t n e l cc T X Y G N op nx el g1 gm g2 hu hle hn hE hc ha]
  simp only [oV,he1,Bool.not_true,cond_false,Zcc g1,Zcc g2,gm,Option.getD_some];rfl
 ·obtain ⟨x,g1⟩:=vx (Zy.1 ha.h2)
  obtain ⟨y,g3⟩:=vx (Zy.1 ha.h3)
  obtain ⟨d,m,g2,gm⟩:=ax (Zy.1 ha.h4)
  have hY:0≤Y∧Y<cc.1:=Zy.1 ha.h3
  obtain ⟨y',gy'⟩:=ZL (e.2.1.set X.toNat (mSpan x (0,m - 1))) Y (by rw [List.length_set];omega)
  rw [ZRy u t n e l cc T X Y G N op nx el g1 g3 gm g2 gy' hu hle hn hE hc ha]
  simp only [oV,he1,Bool.not_true,cond_false,Zcc g1,Zcc g2,Zcc g3,gm,Option.getD_some,Zcc gy'];rfl
 ·rw [ZRz u t n e l cc T X Y G N op nx el hu hle hn hE hc ha]
  simp only [oV,he1,Bool.not_true,cond_false];rfl
 ·rw [ZNk u t n e l cc T X Y G N op nx el hu hle hn hE hc ha]
  simp only [oV,he1,Bool.not_true,cond_false];rfl
 ·obtain ⟨x,g1⟩:=vx (Zy.1 ha.h2)
  obtain ⟨y,g2⟩:=vx (Zy.1 ha.h3)
  obtain ⟨w,n1⟩:=ZML op
  have hw:notI op=w:=by unfold notI;rw [n1];rfl
  rw [ZNl u t n e l cc T X Y G N op nx el g1 g2 n1 hu hle hn hE hc ha]
  simp only [oV,he1,Bool.not_true,cond_false,Zcc g1,Zcc g2,hw];rfl
 ·rw [ZNm u t n e l cc T X Y G N op nx el hu hle hn hE hc ha]
  simp only [oV,he1,Bool.not_true,cond_false];rfl
 ·rw [ZNn u t n e l cc T X Y G N op nx el hu hle hn hE hc ha]
  simp only [oV,he1,Bool.not_true,cond_false];rfl
 ·rw [ZNo u t n e l cc T X Y G N op nx el hu hle hn hE hc ha]
  simp only [oV,he1,Bool.not_true,cond_false];rfl
end
section
open Go.Proofs
section
variable {u:U} {t:Int} {l l':List En} {st:List Int} {c:C}
theorem ZOr (hu:unitOK u) (ht:0≤t) (hl:tabOK l) (hn:l.length≤1000) (hc:u.2.2.2[t.toNat]? = some c) {e:E} (he:e.1=true→envOK u t e) {i:Nat} {d:A} (hd:c.2[i]? = some d):outV u t i e l=oV u t i e l d:=by
 unfold outV
 rw [Z4g hu ht hl hn he (n:=(i:Int)) (by omega) hc (by rw [tN0];exact hd)]
 rfl
end
end
section
open Go.Proofs
theorem ZDa {a b:I} (ha:Zd a=false) (hb:Zd b=false) (h:leqB b a=true):Zg a b=a:=by
 rw [QE] at h
 have ka:=ZS ha
 have kb:=ZS hb
 unfold Zg
 rw [ha,hb]
 unfold sub at h
 obtain ⟨a1,a2⟩:=a
 obtain ⟨b1,b2⟩:=b
 simp only [Bool.false_eq_true,if_false] at *
 rw [Prod.mk.injEq]
 simp only [mn,mx]
 constructor<;>(repeat' split)<;>omega
section
variable {u:U} {t:Int} {l l':List En} {st:List Int} {c:C} {a b z:E}
theorem ZPV (a:E):sameE a a=true:=by
 unfold sameE
 cases a.1<;>simp
end
end
abbrev Zjf:Type:=(Bool×(List E)×(List En)×(List Ac)×(List Al)×Int×Bool×(List E)×(List En)×(List Ac)×(List Al)×Int×Bool)
abbrev Za1:Type:=(Int×(List E)×(List En)×(List Ac)×(List Al)×Int×Bool×(List E)×(List En)×(List Ac)×(List Al)×Int×Bool)
abbrev Zjg:Type:=((List E)×(List En)×(List Ac)×(List Al)×Int×Bool×(List E)×(List En)×(List Ac)×(List Al)×Int×Bool)
def ZNT:List Sh:=[.dat tR,.dat tR]
def ZtN:Nat→List Nat:=fun c=>bif c.beq 0 then [2,3,5] else [2,3,4]
def ZtO:Nat→List Nat:=fun c=>bif c.beq 0 then [2,3,6] else [2,3,4]
def ZtP:Nat→List Nat:=fun c=>bif c.beq 0 then [2,3,7] else [4]
def Zg7:List Con:=[⟨40,Znz,ZsR⟩,⟨49,Zsm,ZBH⟩]
abbrev zh1:List (Nat×BSh):=[(0,.box [.sl tE,.sl tEn,.sl tAc,.sl tAl,.int .i64,.bool]),(1,.box [.sl tE,.sl tEn,.sl tAc,.sl tAl,.int .i64,.bool])]
def Zgk:StS:=⟨[(2,.ptr 0 0),(3,.ptr 1 0),(5,.int .i64)],zh1,2⟩
def Wl:StS:=⟨[(2,.ptr 0 0),(3,.ptr 1 0),(4,.undef)],zh1,2⟩
def Wm:StS:=⟨[(2,.ptr 0 0),(3,.ptr 1 0),(4,.bool)],zh1,2⟩
abbrev Hx:=Za1
def ZCH:StD Zgk→Hx:=fun ((_,_,a,_),((b,c,d,e,f,g,_),(h,i,j,k,l,m,_),_))=>(a,b,c,d,e,f,g,h,i,j,k,l,m)
def ZEr:Hx→StD Zgk:=fun (a,b,c,d,e,f,g,h,i,j,k,l,m)=>(((),(),a,()),((b,c,d,e,f,g,()),(h,i,j,k,l,m,()),()))
abbrev Jw:=Zjg
def ZU9:StD Wl→Jw:=fun ((_,_,_,_),((a,b,c,d,e,f,_),(g,h,i,j,k,l,_),_))=>(a,b,c,d,e,f,g,h,i,j,k,l)
def ZiK:Jw→StD Wl:=fun (a,b,c,d,e,f,g,h,i,j,k,l)=>(((),(),(),()),((a,b,c,d,e,f,()),(g,h,i,j,k,l,()),()))
abbrev Jx:=Zjf
def ZVa:StD Wm→Jx:=fun ((_,_,a,_),((b,c,d,e,f,g,_),(h,i,j,k,l,m,_),_))=>(a,b,c,d,e,f,g,h,i,j,k,l,m)
def ZiL:Jx→StD Wm:=fun (a,b,c,d,e,f,g,h,i,j,k,l,m)=>(((),(),a,()),((b,c,d,e,f,g,()),(h,i,j,k,l,m,()),()))
def Zag (s5:Int) (b0:List E) (g7:List En) (g6:List Ac) (g5:List Al) (gg:Int) (gh:Bool) (b1:List E) (g8:List En) (g9:List Ac) (gf:List Al) (gi:Int) (gk:Bool):Option (Za1⊕(Zjg⊕Zjf)):=bif decide (s5<(b0.length:Int)) then bif decide (0≤s5) then Za b0[s5.toNat]? none fun gl=>bif decide (0≤s5) then Za b1[s5.toNat]? none fun gn=>Za (WH (gl,gn,())) none fun gu=>bif !gu then some (.inr (.inr (false,b0,g7,g6,g5,gg,gh,b1,g8,g9,gf,gi,gk))) else some (.inl (i64.wrap (s5+1),b0,g7,g6,g5,gg,gh,b1,g8,g9,gf,gi,gk)) else none else none else some (.inr (.inl (b0,g7,g6,g5,gg,gh,b1,g8,g9,gf,gi,gk)))
def Zrh:Hx→Option (Hx⊕(Jw⊕Jx)):=fun (a,b,c,d,e,f,g,h,i,j,k,l,m)=>Zag a b c d e f g h i j k l m
def ZfT (x:Hx):Option (Jw⊕Jx):=Zh Zrh Zl x
def Zvv:Nat→Tm→Prog (Nat×Tm):=(varP 0 (fun T h=>(rdS Zgk T h).map ZCH) ZfT (fun y=>.alt y (altE 2 Wl ZiK) (altE 1 Wm ZiL)) (fun _ _=>.fail))
def ZcU:Lpc:=⟨23,0,110,(fun base T=>.norm base (ZtN 0) T (Zvv base)),by kernel_rfl,by kernel_rfl,(loopU Zg7 [] 40 1048576 8 (keep:=ZtN) (q:=Zvv) (by kernel_rfl) (Zv (s:=Zgk) (un:=ZEr) (by rfl) (fun _=>rfl) (ZW (Zn (s:=Wl) (un:=ZiK) (flat:=ZU9) (by rfl) (fun _=>rfl)) (Zn (s:=Wm) (un:=ZiL) (flat:=ZVa) (by rfl) (fun _=>rfl))) (step:=Zrh) (fun _=>by kernel_rfl) (fun _ _ e=>⟨_,e⟩) (ZV (Zm 2 Wl ZiK) (Zm 1 Wm ZiL)) (ZB.fail _ _)))⟩
abbrev ZZz:=cxU Zg7 [ZcU] 40 1048576
def Zgl:StS:=⟨[(2,.ptr 0 0),(3,.ptr 1 0),(6,.int .i64)],zh1,2⟩
def Wn:StS:=⟨[(2,.ptr 0 0),(3,.ptr 1 0),(4,.undef)],zh1,2⟩
def Wo:StS:=⟨[(2,.ptr 0 0),(3,.ptr 1 0),(4,.bool)],zh1,2⟩
abbrev Hy:=Za1
def ZCI:StD Zgl→Hy:=fun ((_,_,a,_),((b,c,d,e,f,g,_),(h,i,j,k,l,m,_),_))=>(a,b,c,d,e,f,g,h,i,j,k,l,m)
def ZEs:Hy→StD Zgl:=fun (a,b,c,d,e,f,g,h,i,j,k,l,m)=>(((),(),a,()),((b,c,d,e,f,g,()),(h,i,j,k,l,m,()),()))
abbrev Jy:=Zjg
def ZVb:StD Wn→Jy:=fun ((_,_,_,_),((a,b,c,d,e,f,_),(g,h,i,j,k,l,_),_))=>(a,b,c,d,e,f,g,h,i,j,k,l)
def ZiM:Jy→StD Wn:=fun (a,b,c,d,e,f,g,h,i,j,k,l)=>(((),(),(),()),((a,b,c,d,e,f,()),(g,h,i,j,k,l,()),()))
abbrev Jz:=Zjf
def ZVc:StD Wo→Jz:=fun ((_,_,a,_),((b,c,d,e,f,g,_),(h,i,j,k,l,m,_),_))=>(a,b,c,d,e,f,g,h,i,j,k,l,m)
def ZiN:Jz→StD Wo:=fun (a,b,c,d,e,f,g,h,i,j,k,l,m)=>(((),(),a,()),((b,c,d,e,f,g,()),(h,i,j,k,l,m,()),()))
def Zah (s6:Int) (b0:List E) (g7:List En) (g6:List Ac) (g5:List Al) (gg:Int) (gh:Bool) (b1:List E) (g8:List En) (g9:List Ac) (gf:List Al) (gi:Int) (gk:Bool):Option (Za1⊕(Zjg⊕Zjf)):=bif decide (s6<(g6.length:Int)) then bif decide (0≤s6) then Za g6[s6.toNat]? none fun gl=>bif decide (0≤s6) then Za g9[s6.toNat]? none fun gn=>bif !(gl.1==gn.1&&(gl.2.1==gn.2.1&&(gl.2.2.1==gn.2.2.1&&(gl.2.2.2.1==gn.2.2.2.1&&(gl.2.2.2.2.1==gn.2.2.2.2.1&&gl.2.2.2.2.2==gn.2.2.2.2.2))))) then some (.inr (.inr (false,b0,g7,g6,g5,gg,gh,b1,g8,g9,gf,gi,gk))) else some (.inl (i64.wrap (s6+1),b0,g7,g6,g5,gg,gh,b1,g8,g9,gf,gi,gk)) else none else none else some (.inr (.inl (b0,g7,g6,g5,gg,gh,b1,g8,g9,gf,gi,gk)))
def Zri:Hy→Option (Hy⊕(Jy⊕Jz)):=fun (a,b,c,d,e,f,g,h,i,j,k,l,m)=>Zah a b c d e f g h i j k l m
def ZfU (x:Hy):Option (Jy⊕Jz):=Zh Zri Zl x
def Zvw:Nat→Tm→Prog (Nat×Tm):=(varP 0 (fun T h=>(rdS Zgl T h).map ZCI) ZfU (fun y=>.alt y (altE 4 Wn ZiM) (altE 1 Wo ZiN)) (fun _ _=>.fail))
def Zm9:Lpc:=⟨23,2,110,(fun base T=>.norm base (ZtO 0) T (Zvw base)),by kernel_rfl,by kernel_rfl,(loopU Zg7 [ZcU] 40 1048576 8 (keep:=ZtO) (q:=Zvw) (by kernel_rfl) (Zv (s:=Zgl) (un:=ZEs) (by rfl) (fun _=>rfl) (ZW (Zn (s:=Wn) (un:=ZiM) (flat:=ZVb) (by rfl) (fun _=>rfl)) (Zn (s:=Wo) (un:=ZiN) (flat:=ZVc) (by rfl) (fun _=>rfl))) (step:=Zri) (fun _=>by kernel_rfl) (fun _ _ e=>⟨_,e⟩) (ZV (Zm 4 Wn ZiM) (Zm 1 Wo ZiN)) (ZB.fail _ _)))⟩
abbrev ZZA:=cxU Zg7 [ZcU,Zm9] 40 1048576
def Zgm:StS:=⟨[(2,.ptr 0 0),(3,.ptr 1 0),(7,.int .i64)],zh1,2⟩
def Wp:StS:=⟨[(4,.undef)],[],0⟩
def Wq:StS:=⟨[(4,.bool)],[],0⟩
abbrev Hz:=Za1
def ZCJ:StD Zgm→Hz:=fun ((_,_,a,_),((b,c,d,e,f,g,_),(h,i,j,k,l,m,_),_))=>(a,b,c,d,e,f,g,h,i,j,k,l,m)
def ZEt:Hz→StD Zgm:=fun (a,b,c,d,e,f,g,h,i,j,k,l,m)=>(((),(),a,()),((b,c,d,e,f,g,()),(h,i,j,k,l,m,()),()))
abbrev JA:=Unit
def ZVd (d:StD Wp):JA:=()
def ZiO (x:JA):StD Wp:=(((),()),())
abbrev JB:=Bool
def ZVe (d:StD Wq):JB:=(d.1.1)
def ZiP (x:JB):StD Wq:=((x,()),())
def Zai (s7:Int) (b0:List E) (g7:List En) (g6:List Ac) (g5:List Al) (gg:Int) (gh:Bool) (b1:List E) (g8:List En) (g9:List Ac) (gf:List Al) (gi:Int) (gk:Bool):Option (Za1⊕(Unit⊕Bool)):=bif decide (s7<(g5.length:Int)) then bif decide (0≤s7) then Za g5[s7.toNat]? none fun gl=>bif decide (0≤s7) then Za gf[s7.toNat]? none fun gn=>bif !(gl.1==gn.1&&(gl.2.1==gn.2.1&&(gl.2.2.1==gn.2.2.1&&(gl.2.2.2.1==gn.2.2.2.1&&(gl.2.2.2.2.1==gn.2.2.2.2.1&&gl.2.2.2.2.2==gn.2.2.2.2.2))))) then some (.inr (.inr false)) else some (.inl (i64.wrap (s7+1),b0,g7,g6,g5,gg,gh,b1,g8,g9,gf,gi,gk)) else none else none else some (.inr (.inl PUnit.unit))
def Zrj:Hz→Option (Hz⊕(JA⊕JB)):=fun (a,b,c,d,e,f,g,h,i,j,k,l,m)=>Zai a b c d e f g h i j k l m
def ZfV (x:Hz):Option (JA⊕JB):=Zh Zrj Zl x
def Zvx:Nat→Tm→Prog (Nat×Tm):=(varP 0 (fun T h=>(rdS Zgm T h).map ZCJ) ZfV (fun y=>.alt y (altE 6 Wp ZiO) (altE 1 Wq ZiP)) (fun _ _=>.fail))
def ZHW:Lpc:=⟨23,4,110,(fun base T=>.norm base (ZtP 0) T (Zvx base)),by kernel_rfl,by kernel_rfl,(loopU Zg7 [ZcU,Zm9] 40 1048576 8 (keep:=ZtP) (q:=Zvx) (by kernel_rfl) (Zv (s:=Zgm) (un:=ZEt) (by rfl) (fun _=>rfl) (ZW (Zn (s:=Wp) (un:=ZiO) (flat:=ZVd) (by rfl) (fun _=>rfl)) (Zn (s:=Wq) (un:=ZiP) (flat:=ZVe) (by rfl) (fun _=>rfl))) (step:=Zrj) (fun _=>by kernel_rfl) (fun _ _ e=>⟨_,e⟩) (ZV (Zm 6 Wp ZiO) (Zm 1 Wq ZiP)) (ZB.fail _ _)))⟩
def Zqy (a0 a1:Re):Option Bool:=bif (List.length a0.1:Int) !=(List.length a1.1:Int) then some false else Za (WI (a0.2.1,a1.2.1,())) none fun d6=>bif !d6 then some false else bif (List.length a0.2.2.1:Int) !=(List.length a1.2.2.1:Int) then some false else bif (List.length a0.2.2.2.1:Int) !=(List.length a1.2.2.2.1:Int) then some false else bif a0.2.2.2.2.1 !=a1.2.2.2.2.1 then some false else bif !a0.2.2.2.2.2==a1.2.2.2.2.2 then some false else Za (ZfT (0,a0.1,a0.2.1,a0.2.2.1,a0.2.2.2.1,a0.2.2.2.2.1,a0.2.2.2.2.2,a1)) none fun d7=>Sum.elim (fun e8=>Za (ZfU (0,e8)) none fun d9=>Sum.elim (fun jg=>Za (ZfV (0,jg)) none fun j5=>Sum.elim (fun jh=>some true) (fun jh=>some jh) j5) (fun jg=>some jg.1) d9) (fun e8=>some e8.1) d7
def Zfp (x:Re×(Re×Unit)):Option Bool:=Zqy x.1 x.2.1
def Zso:=conP true ZNT (.dat .bool) Zfp
theorem ZBJ:Zf prog 23 Zso:=Ze (calU Zg7 [ZcU,Zm9,ZHW] 40 1048576 8 23) true (by rfl) (by rfl) (fun x r e=>(Zk _ _ _ _ _ _ _).trans ((show _=Zfp x by kernel_rfl).trans e)) (.inl rfl)
def Zev (g7:List En) (g6:List Ac) (g5:List Al) (gg:Int) (gh:Bool) (b1:List E) (g8:List En) (g9:List Ac) (gf:List Al) (gi:Int) (gk:Bool) (b0:List E) (i:Nat)  (d:E):Option (Unit⊕(Jw⊕Jx)):=
 Za b1[i]? (none) fun gn=>
  Za (WH (d,gn,())) (none) fun gu=>
  bif !gu then
  some (.inr (.inr (false,b0,g7,g6,g5,gg,gh,b1,g8,g9,gf,gi,gk)))
 else some (.inl ())
def ZkB (g7:List En) (g6:List Ac) (g5:List Al) (gg:Int) (gh:Bool) (b1:List E) (g8:List En) (g9:List Ac) (gf:List Al) (gi:Int) (gk:Bool) (b0:List E):Option (Jw⊕Jx):=
 some (.inl (b0,g7,g6,g5,gg,gh,b1,g8,g9,gf,gi,gk))
abbrev ZDU (g7:List En) (g6:List Ac) (g5:List Al) (gg:Int) (gh:Bool) (b1:List E) (g8:List En) (g9:List Ac) (gf:List Al) (gi:Int) (gk:Bool) (b0:List E) (i:Nat) (s:Unit):Hx:=((i:Int),b0,g7,g6,g5,gg,gh,b1,g8,g9,gf,gi,gk)
def ZkP (g7:List En) (g6:List Ac) (g5:List Al) (gg:Int) (gh:Bool) (b1:List E) (g8:List En) (g9:List Ac) (gf:List Al) (gi:Int) (gk:Bool) (b0:List E) (s:Unit):Option (Jw⊕Jx):=Zp (fun i s d=>Zev g7 g6 g5 gg gh b1 g8 g9 gf gi gk b0 i  d) (fun s=>ZkB g7 g6 g5 gg gh b1 g8 g9 gf gi gk b0 ) 0 b0 s
theorem ZDG (g7:List En) (g6:List Ac) (g5:List Al) (gg:Int) (gh:Bool) (b1:List E) (g8:List En) (g9:List Ac) (gf:List Al) (gi:Int) (gk:Bool) (b0:List E) (s:Unit) (hl:b0.length<9223372036854775807):ZfT (0,b0,g7,g6,g5,gg,gh,b1,g8,g9,gf,gi,gk)=ZkP g7 g6 g5 gg gh b1 g8 g9 gf gi gk b0 s:=by
 unfold ZfT ZkP
 refine Zs b0 (ZDU g7 g6 g5 gg gh b1 g8 g9 gf gi gk b0) _ _ ?_ ?_ s (by unfold Zl;omega)
 ·intro i s d hi hd
  have e1:decide ((i:Int)<(b0.length:Int))=true:=dT0 (by omega)
  have e2:decide (0≤(i:Int))=true:=dT0 (by omega)
  have e3:Int.toNat (i:Int)=i:=tN0 i
  have e4:=Zq hi (Nat.le_of_lt hl)
  show Zag ((i:Int)) (b0) (g7) (g6) (g5) (gg) (gh) (b1) (g8) (g9) (gf) (gi) (gk)=upd _ (Zev g7 g6 g5 gg gh b1 g8 g9 gf gi gk b0 i  d)
  unfold Zag Zev
  simp only [e1,e2,e3,e4,hd,cond_true,cond_false,Zb,ZC,ZF,ZD,ZI,ZJ,ZE]
 ·intro s
  have e1:decide ((b0.length:Int)<(b0.length:Int))=false:=dF0 (by omega)
  show Zag ((b0.length:Int)) (b0) (g7) (g6) (g5) (gg) (gh) (b1) (g8) (g9) (gf) (gi) (gk)=_
  unfold Zag ZkB
  rw [e1]
  rfl
def Zew (b0:List E) (g7:List En) (g5:List Al) (gg:Int) (gh:Bool) (b1:List E) (g8:List En) (g9:List Ac) (gf:List Al) (gi:Int) (gk:Bool) (g6:List Ac) (i:Nat)  (d:Ac):Option (Unit⊕(Jy⊕Jz)):=
 Za g9[i]? (none) fun gn=>
  bif !(d.1==gn.1&&(d.2.1==gn.2.1&&(d.2.2.1==gn.2.2.1&&(d.2.2.2.1==gn.2.2.2.1&&(d.2.2.2.2.1==gn.2.2.2.2.1&&d.2.2.2.2.2==gn.2.2.2.2.2))))) then
  some (.inr (.inr (false,b0,g7,g6,g5,gg,gh,b1,g8,g9,gf,gi,gk)))
 else some (.inl ())
def ZkC (b0:List E) (g7:List En) (g5:List Al) (gg:Int) (gh:Bool) (b1:List E) (g8:List En) (g9:List Ac) (gf:List Al) (gi:Int) (gk:Bool) (g6:List Ac):Option (Jy⊕Jz):=
 some (.inl (b0,g7,g6,g5,gg,gh,b1,g8,g9,gf,gi,gk))
abbrev ZDV (b0:List E) (g7:List En) (g5:List Al) (gg:Int) (gh:Bool) (b1:List E) (g8:List En) (g9:List Ac) (gf:List Al) (gi:Int) (gk:Bool) (g6:List Ac) (i:Nat) (s:Unit):Hy:=((i:Int),b0,g7,g6,g5,gg,gh,b1,g8,g9,gf,gi,gk)
def ZkQ (b0:List E) (g7:List En) (g5:List Al) (gg:Int) (gh:Bool) (b1:List E) (g8:List En) (g9:List Ac) (gf:List Al) (gi:Int) (gk:Bool) (g6:List Ac) (s:Unit):Option (Jy⊕Jz):=Zp (fun i s d=>Zew b0 g7 g5 gg gh b1 g8 g9 gf gi gk g6 i  d) (fun s=>ZkC b0 g7 g5 gg gh b1 g8 g9 gf gi gk g6 ) 0 g6 s
theorem ZDH (b0:List E) (g7:List En) (g5:List Al) (gg:Int) (gh:Bool) (b1:List E) (g8:List En) (g9:List Ac) (gf:List Al) (gi:Int) (gk:Bool) (g6:List Ac) (s:Unit) (hl:g6.length<9223372036854775807):ZfU (0,b0,g7,g6,g5,gg,gh,b1,g8,g9,gf,gi,gk)=ZkQ b0 g7 g5 gg gh b1 g8 g9 gf gi gk g6 s:=by
 unfold ZfU ZkQ
 refine Zs g6 (ZDV b0 g7 g5 gg gh b1 g8 g9 gf gi gk g6) _ _ ?_ ?_ s (by unfold Zl;omega)
 ·intro i s d hi hd
  have e1:decide ((i:Int)<(g6.length:Int))=true:=dT0 (by omega)
  have e2:decide (0≤(i:Int))=true:=dT0 (by omega)
  have e3:Int.toNat (i:Int)=i:=tN0 i
  have e4:=Zq hi (Nat.le_of_lt hl)
  show Zah ((i:Int)) (b0) (g7) (g6) (g5) (gg) (gh) (b1) (g8) (g9) (gf) (gi) (gk)=upd _ (Zew b0 g7 g5 gg gh b1 g8 g9 gf gi gk g6 i  d)
  unfold Zah Zew
  simp only [e1,e2,e3,e4,hd,cond_true,cond_false,Zb,ZC,ZF,ZD,ZI,ZJ,ZE]
 ·intro s
  have e1:decide ((g6.length:Int)<(g6.length:Int))=false:=dF0 (by omega)
  show Zah ((g6.length:Int)) (b0) (g7) (g6) (g5) (gg) (gh) (b1) (g8) (g9) (gf) (gi) (gk)=_
  unfold Zah ZkC
  rw [e1]
  rfl
def Zex (b0:List E) (g7:List En) (g6:List Ac) (gg:Int) (gh:Bool) (b1:List E) (g8:List En) (g9:List Ac) (gf:List Al) (gi:Int) (gk:Bool) (g5:List Al) (i:Nat)  (d:Al):Option (Unit⊕(JA⊕JB)):=
 Za gf[i]? (none) fun gn=>
  bif !(d.1==gn.1&&(d.2.1==gn.2.1&&(d.2.2.1==gn.2.2.1&&(d.2.2.2.1==gn.2.2.2.1&&(d.2.2.2.2.1==gn.2.2.2.2.1&&d.2.2.2.2.2==gn.2.2.2.2.2))))) then
  some (.inr (.inr false))
 else some (.inl ())
def ZkD (b0:List E) (g7:List En) (g6:List Ac) (gg:Int) (gh:Bool) (b1:List E) (g8:List En) (g9:List Ac) (gf:List Al) (gi:Int) (gk:Bool) (g5:List Al):Option (JA⊕JB):=
 some (.inl PUnit.unit)
abbrev ZDW (b0:List E) (g7:List En) (g6:List Ac) (gg:Int) (gh:Bool) (b1:List E) (g8:List En) (g9:List Ac) (gf:List Al) (gi:Int) (gk:Bool) (g5:List Al) (i:Nat) (s:Unit):Hz:=((i:Int),b0,g7,g6,g5,gg,gh,b1,g8,g9,gf,gi,gk)
def ZkR (b0:List E) (g7:List En) (g6:List Ac) (gg:Int) (gh:Bool) (b1:List E) (g8:List En) (g9:List Ac) (gf:List Al) (gi:Int) (gk:Bool) (g5:List Al) (s:Unit):Option (JA⊕JB):=Zp (fun i s d=>Zex b0 g7 g6 gg gh b1 g8 g9 gf gi gk g5 i  d) (fun s=>ZkD b0 g7 g6 gg gh b1 g8 g9 gf gi gk g5 ) 0 g5 s
theorem ZDI (b0:List E) (g7:List En) (g6:List Ac) (gg:Int) (gh:Bool) (b1:List E) (g8:List En) (g9:List Ac) (gf:List Al) (gi:Int) (gk:Bool) (g5:List Al) (s:Unit) (hl:g5.length<9223372036854775807):ZfV (0,b0,g7,g6,g5,gg,gh,b1,g8,g9,gf,gi,gk)=ZkR b0 g7 g6 gg gh b1 g8 g9 gf gi gk g5 s:=by
 unfold ZfV ZkR
 refine Zs g5 (ZDW b0 g7 g6 gg gh b1 g8 g9 gf gi gk g5) _ _ ?_ ?_ s (by unfold Zl;omega)
 ·intro i s d hi hd
  have e1:decide ((i:Int)<(g5.length:Int))=true:=dT0 (by omega)
  have e2:decide (0≤(i:Int))=true:=dT0 (by omega)
  have e3:Int.toNat (i:Int)=i:=tN0 i
  have e4:=Zq hi (Nat.le_of_lt hl)
  show Zai ((i:Int)) (b0) (g7) (g6) (g5) (gg) (gh) (b1) (g8) (g9) (gf) (gi) (gk)=upd _ (Zex b0 g7 g6 gg gh b1 g8 g9 gf gi gk g5 i  d)
  unfold Zai Zex
  simp only [e1,e2,e3,e4,hd,cond_true,cond_false,Zb,ZC,ZF,ZD,ZI,ZJ,ZE]
 ·intro s
  have e1:decide ((g5.length:Int)<(g5.length:Int))=false:=dF0 (by omega)
  show Zai ((g5.length:Int)) (b0) (g7) (g6) (g5) (gg) (gh) (b1) (g8) (g9) (gf) (gi) (gk)=_
  unfold Zai ZkD
  rw [e1]
  rfl
theorem ZXE (r:Re) (h:∀ x∈r.1,x.1=true→szE x) (h1:r.1.length<2305843009213693952) (h2:r.2.1.length<2305843009213693952) (h3:r.2.2.1.length<2305843009213693952) (h4:r.2.2.2.1.length<2305843009213693952):Zqy r r=some true:=by
 obtain ⟨es,st,ac,al,n,d⟩:=r
 simp only at h h1 h2 h3 h4
 have s1:=Zxg st st h2
 rw [dT0 rfl] at s1
 have a1:=ZDG st ac al n d es st ac al n d es () (by omega)
 unfold ZkP at a1
 rw [Zfe es 0 fun j e he=>?_] at a1
 ·have a2:=ZDH es st al n d es st ac al n d ac () (by omega)
  unfold ZkQ at a2
  rw [Zfe ac 0 fun j e he=>?_] at a2
  ·have a3:=ZDI es st ac n d es st ac al n d al () (by omega)
   unfold ZkR at a3
   rw [Zfe al 0 fun j e he=>?_] at a3
   ·unfold Zqy
    have q:∀ x:Int,(x !=x)=false:=fun x=>by simp
    have q2:(!d==d)=false:=by cases d<;>rfl
    simp only [q,q2,cond_false,WI,s1,Zb,Bool.not_true,a1,ZkB,Sum.elim_inl,a2,ZkC,a3,ZkD]
   ·unfold Zex
    rw [Nat.zero_add,he]
    simp only [Zb,beq_self_eq_true,Bool.and_true,Bool.not_true,cond_false]
  ·unfold Zew
   rw [Nat.zero_add,he]
   simp only [Zb,beq_self_eq_true,Bool.and_true,Bool.not_true,cond_false]
 ·unfold Zev
  rw [Nat.zero_add,he]
  simp only [Zb,WH,ZuK (h e (mG0 he)),ZPV,Bool.not_true,cond_false]
def ZQq:List Sh:=[.dat tU,.dat (.int .i64)]
def Zu9:Nat→List Nat:=fun c=>bif c.beq 0 then [1,2,5,6] else [2,4]
def ZIH:List Con:=[⟨64,Zzv,ZKH⟩]
def ZhT:StS:=⟨[(1,.int .i64),(2,.ptr 0 0),(5,.int .i64),(6,.int .i64)],zh0,1⟩
def ZaA:StS:=⟨[(2,.ptr 0 0),(4,.undef)],zh0,1⟩
def ZaB:StS:=⟨[(2,.ptr 0 0),(4,.bool)],zh0,1⟩
abbrev VF:=(Int×Int×Int×(List Int)×(List Int)×Int×(List C))
def ZFF:StD ZhT→VF:=fun ((a,_,b,c,_),((d,e,f,g,_),_))=>(a,b,c,d,e,f,g)
def ZGL:VF→StD ZhT:=fun (a,b,c,d,e,f,g)=>((a,(),b,c,()),((d,e,f,g,()),()))
abbrev J5:=((List Int)×(List Int)×Int×(List C))
def ZWI:StD ZaA→J5:=fun ((_,_,_),((a,b,c,d,_),_))=>(a,b,c,d)
def ZjW:J5→StD ZaA:=fun (a,b,c,d)=>(((),(),()),((a,b,c,d,()),()))
abbrev J6:=(Bool×(List Int)×(List Int)×Int×(List C))
def ZWJ:StD ZaB→J6:=fun ((_,a,_),((b,c,d,e,_),_))=>(a,b,c,d,e)
def ZjX:J6→StD ZaB:=fun (a,b,c,d,e)=>(((),a,()),((b,c,d,e,()),()))
def ZbJ (s1 s5 s6:Int) (b0 g7:List Int) (g6:Int) (g5:List C):Option ((Int×Int×Int×(List Int)×(List Int)×Int×(List C))⊕(((List Int)×(List Int)×Int×(List C))⊕(Bool×(List Int)×(List Int)×Int×(List C)))):=bif decide (s6<(g5.length:Int)) then bif decide (0≤s6) then Za g5[s6.toNat]? none fun d9=>bif decide (i64.wrap (s5+(List.length d9.2:Int))>s1) then some (.inr (.inr (true,b0,g7,g6,g5))) else some (.inl (s1,i64.wrap (s5+(List.length d9.2:Int)),i64.wrap (s6+1),b0,g7,g6,g5)) else none else some (.inr (.inl (b0,g7,g6,g5)))
def Zr3:VF→Option (VF⊕(J5⊕J6)):=fun (a,b,c,d,e,f,g)=>ZbJ a b c d e f g
def ZcE (x:VF):Option (J5⊕J6):=Zh Zr3 Zl x
def Zxs:Nat→Tm→Prog (Nat×Tm):=(varP 0 (fun T h=>(rdS ZhT T h).map ZFF) ZcE (fun y=>.alt y (altE 2 ZaA ZjW) (altE 1 ZaB ZjX)) (fun _ _=>.fail))
def ZJC:Lpc:=⟨38,0,45,(fun base T=>.norm base (Zu9 0) T (Zxs base)),by kernel_rfl,by kernel_rfl,(loopU ZIH [] 40 1048576 8 (keep:=Zu9) (q:=Zxs) (by kernel_rfl) (Zv (s:=ZhT) (un:=ZGL) (by rfl) (fun _=>rfl) (ZW (Zn (s:=ZaA) (un:=ZjW) (flat:=ZWI) (by rfl) (fun _=>rfl)) (Zn (s:=ZaB) (un:=ZjX) (flat:=ZWJ) (by rfl) (fun _=>rfl))) (step:=Zr3) (fun _=>by kernel_rfl) (fun _ _ e=>⟨_,e⟩) (ZV (Zm 2 ZaA ZjW) (Zm 1 ZaB ZjX)) (ZB.fail _ _)))⟩
def Zta (a0:U) (a1:Int):Option Bool:=bif decide ((List.length a0.2.2.2:Int)>4) then some true else bif decide ((List.length a0.1:Int)>10) then some true else bif decide ((List.length a0.2.1:Int)>10) then some true else Za (ZcE (a1,0,0,a0)) none fun d4=>Sum.elim (fun e5=>Za (Zpm (e5,())) none fun d6=>some !d6) (fun e5=>some e5.1) d4
def Zlx (x:U×(Int×Unit)):Option Bool:=Zta x.1 x.2.1
def Zuy:=conP true ZQq (.dat .bool) Zlx
theorem ZE5:Zf prog 38 Zuy:=Ze (calU ZIH [ZJC] 40 1048576 8 38) true (by rfl) (by rfl) (fun x r e=>(Zk _ _ _ _ _ _ _).trans ((show _=Zlx x by kernel_rfl).trans e)) (.inl rfl)
def Qz (s1:Int) (b0 g7:List Int) (g6:Int) (g5:List C) (i:Nat) (s5:Int) (d:C):Option (Int⊕(J5⊕J6)):=
 bif decide (i64.wrap (s5+(↑(List.length d.2):Int))>s1) then
  some (.inr (.inr (true,b0,g7,g6,g5)))
 else some (.inl (i64.wrap (s5+(↑(List.length d.2):Int))))
def HK (s1:Int) (b0 g7:List Int) (g6:Int) (g5:List C) (s5:Int):Option (J5⊕J6):=
 some (.inl (b0,g7,g6,g5))
abbrev ZGp (s1:Int) (b0 g7:List Int) (g6:Int) (g5:List C) (i:Nat) (s:Int):VF:=(s1,s,(i:Int),b0,g7,g6,g5)
def Zl3 (s1:Int) (b0 g7:List Int) (g6:Int) (g5:List C) (s:Int):Option (J5⊕J6):=Zp (fun i s d=>Qz s1 b0 g7 g6 g5 i s d) (fun s=>HK s1 b0 g7 g6 g5 s) 0 g5 s
theorem ZGd (s1:Int) (b0 g7:List Int) (g6:Int) (g5:List C) (s:Int) (hl:g5.length<9223372036854775807):ZcE (s1,s,0,b0,g7,g6,g5)=Zl3 s1 b0 g7 g6 g5 s:=by
 unfold ZcE Zl3
 refine Zs g5 (ZGp s1 b0 g7 g6 g5) _ _ ?_ ?_ s (by unfold Zl;omega)
 ·intro i s d hi hd
  have e1:decide ((i:Int)<(g5.length:Int))=true:=dT0 (by omega)
  have e2:decide (0≤(i:Int))=true:=dT0 (by omega)
  have e3:Int.toNat (i:Int)=i:=tN0 i
  have e4:=Zq hi (Nat.le_of_lt hl)
  show ZbJ (s1) (s) ((i:Int)) (b0) (g7) (g6) (g5)=upd _ (Qz s1 b0 g7 g6 g5 i s d)
  unfold ZbJ Qz
  simp only [e1,e2,e3,e4,hd,cond_true,cond_false,Zb,ZC,ZF,ZD,ZI,ZJ,ZE]
 ·intro s
  have e1:decide ((g5.length:Int)<(g5.length:Int))=false:=dF0 (by omega)
  show ZbJ (s1) (s) ((g5.length:Int)) (b0) (g7) (g6) (g5)=_
  unfold ZbJ HK
  rw [e1]
  rfl
def ZK1:List Sh:=[.dat (.sl tR)]
def ZkG:Nat→List Nat:=fun c=>bif c.beq 0 then [3,6,7,8] else [3]
def Zzc:List Con:=[⟨81,Zs8,ZAa⟩]
def ZdK:StS:=⟨[(3,.row 0),(6,.sl tR),(7,.int .i64),(8,.int .i64)],[(0,.row tEn)],1⟩
def Hb:StS:=⟨[(3,.row 0)],[(0,.row tEn)],1⟩
abbrev K0:=((List Re)×Int×Int×(List En))
def Zzx:StD ZdK→K0:=fun ((_,a,b,c,_),(d,_))=>(a,b,c,d)
def ZAd:K0→StD ZdK:=fun (a,b,c,d)=>(((),a,b,c,()),(d,()))
abbrev QJ:=(List En)
def ZSu (d:StD Hb):QJ:=(d.2.1)
def ZfI (x:QJ):StD Hb:=(((),()),(x,()))
def HZ (s6:List Re) (s7 s8:Int) (b0:List En):Option (((List Re)×Int×Int×(List En))⊕(List En)):=bif decide (s8<s7) then bif decide (0≤s8) then Za s6[s8.toNat]? none fun d6=>Za (Zhb (b0,d6.2.1,())) none fun d7=>some (.inl (s6,s7,i64.wrap (s8+1),d7)) else none else some (.inr b0)
def ZoJ:K0→Option (K0⊕QJ):=fun (a,b,c,d)=>HZ a b c d
def Zdl (x:K0):Option QJ:=Zh ZoJ Zl x
def ZrQ:Nat→Tm→Prog (Nat×Tm):=(varP 0 (fun T h=>(rdS ZdK T h).map Zzx) Zdl (altE 2 Hb ZfI) (fun _ _=>.fail))
def ZDd:Lpc:=⟨73,0,18,(ownP [] [(3,tEn)] (ZkG 0) (fun base T=>.norm base (ZkG 0) T (ZrQ base))),by kernel_rfl,by kernel_rfl,(Ja (loopU Zzc [] 40 1048576 8 (keep:=ZkG) (q:=ZrQ) (by kernel_rfl) (Zv (s:=ZdK) (un:=ZAd) (by rfl) (fun _=>rfl) (Zn (s:=Hb) (un:=ZfI) (flat:=ZSu) (by rfl) (fun _=>rfl)) (step:=ZoJ) (fun _=>by kernel_rfl) (fun _ _ e=>⟨_,e⟩) (Zm 2 Hb ZfI) (ZB.fail _ _))))⟩
def Zsx (a0:List Re):Option (List En):=Za (Zdl (a0,(a0.length:Int),0,[])) none fun d3=>some d3
def Znw (x:(List Re)×Unit):Option (List En):=Zsx x.1
def ZwI:=conR false ZK1 tEn Znw
theorem ZLM:Zf prog 73 ZwI:=ZhA (calU Zzc [ZDd] 40 1048576 8 73) false (by rfl) (fun x r e=>(Zpp _ _ _ _ _ _ _).trans ((show _=Znw x by kernel_rfl).trans e)) (.inr (by rfl))
def HT  (s6:(List Re)) (i:Nat) (b0:(List En)) (d:Re):Option ((List En)⊕QJ):=
 Za (Zhb (b0,d.2.1,())) (none) fun d7=>
  some (.inl (d7))
def Zii  (s6:(List Re)) (b0:(List En)):Option QJ:=
 some b0
abbrev Zz2  (s6:(List Re)) (i:Nat) (s:(List En)):K0:=(s6,(s6.length:Int),(i:Int),s)
def Zim  (s6:(List Re)) (s:(List En)):Option QJ:=Zp (fun i s d=>HT  s6 i s d) (fun s=>Zii  s6 s) 0 s6 s
theorem ZzY  (s6:(List Re)) (s:(List En)) (hl:s6.length<9223372036854775807):Zdl (s6,(s6.length:Int),0,s)=Zim  s6 s:=by
 unfold Zdl Zim
 refine Zs s6 (Zz2  s6) _ _ ?_ ?_ s (by unfold Zl;omega)
 ·intro i s d hi hd
  have e1:decide ((i:Int)<(s6.length:Int))=true:=dT0 (by omega)
  have e2:decide (0≤(i:Int))=true:=dT0 (by omega)
  have e3:Int.toNat (i:Int)=i:=tN0 i
  have e4:=Zq hi (Nat.le_of_lt hl)
  show HZ (s6) ((s6.length:Int)) ((i:Int)) (s)=upd _ (HT  s6 i s d)
  unfold HZ HT
  simp only [e1,e2,e3,e4,hd,cond_true,cond_false,Zb,ZC,ZF,ZD,ZI,ZJ,ZE]
 ·intro s
  have e1:decide ((s6.length:Int)<(s6.length:Int))=false:=dF0 (by omega)
  show HZ (s6) ((s6.length:Int)) ((s6.length:Int)) (s)=_
  unfold HZ Zii
  rw [e1]
  rfl
def ZJk:List Sh:=[.dat (.sl tR)]
def Zpu:Nat→List Nat:=fun c=>bif c.beq 0 then [5,6,7] else [2]
def Zcr:StS:=⟨[(5,.sl tR),(6,.int .i64),(7,.int .i64)],[],0⟩
def Yt:StS:=⟨[(2,.undef)],[],0⟩
def Yu:StS:=⟨[(2,.bool)],[],0⟩
abbrev KB:=((List Re)×Int×Int)
def Zyg:StD Zcr→KB:=fun ((a,b,c,_),_)=>(a,b,c)
def Zyv:KB→StD Zcr:=fun (a,b,c)=>((a,b,c,()),())
abbrev Qt:=Unit
def ZRh (d:StD Yt):Qt:=()
def Ze0 (x:Qt):StD Yt:=(((),()),())
abbrev Qu:=Bool
def ZRi (d:StD Yu):Qu:=(d.1.1)
def Ze1 (x:Qu):StD Yu:=((x,()),())
def Y4 (s5:List Re) (s6 s7:Int):Option (((List Re)×Int×Int)⊕(Unit⊕Bool)):=bif decide (s7<s6) then bif decide (0≤s7) then Za s5[s7.toNat]? none fun d5=>bif !d5.2.2.2.2.2 then some (.inr (.inr false)) else some (.inl (s5,s6,i64.wrap (s7+1))) else none else some (.inr (.inl PUnit.unit))
def ZnY:KB→Option (KB⊕(Qt⊕Qu)):=fun (a,b,c)=>Y4 a b c
def Zcf (x:KB):Option (Qt⊕Qu):=Zh ZnY Zl x
def ZqO:Nat→Tm→Prog (Nat×Tm):=(varP 0 (fun T h=>(rdS Zcr T h).map Zyg) Zcf (fun y=>.alt y (altE 2 Yt Ze0) (altE 1 Yu Ze1)) (fun _ _=>.fail))
def ZAV:Lpc:=⟨46,0,15,(fun base T=>.norm base (Zpu 0) T (ZqO base)),by kernel_rfl,by kernel_rfl,(loopU [] [] 40 1048576 8 (keep:=Zpu) (q:=ZqO) (by kernel_rfl) (Zv (s:=Zcr) (un:=Zyv) (by rfl) (fun _=>rfl) (ZW (Zn (s:=Yt) (un:=Ze0) (flat:=ZRh) (by rfl) (fun _=>rfl)) (Zn (s:=Yu) (un:=Ze1) (flat:=ZRi) (by rfl) (fun _=>rfl))) (step:=ZnY) (fun _=>by kernel_rfl) (fun _ _ e=>⟨_,e⟩) (ZV (Zm 2 Yt Ze0) (Zm 1 Yu Ze1)) (ZB.fail _ _)))⟩
def Zqw (a0:List Re):Option Bool:=Za (Zcf (a0,(a0.length:Int),0)) none fun d3=>Sum.elim (fun e4=>some true) (fun e4=>some e4) d3
def Zha (x:(List Re)×Unit):Option Bool:=Zqw x.1
def ZuY:=conP false ZJk (.dat .bool) Zha
theorem ZJZ:Zf prog 46 ZuY:=Ze (calU [] [ZAV] 40 1048576 8 46) false (by rfl) (by rfl) (fun x r e=>(Zk _ _ _ _ _ _ _).trans ((show _=Zha x by kernel_rfl).trans e)) (.inr fun _=>rfl)
def Zbc  (s5:(List Re)) (i:Nat)  (d:Re):Option (Unit⊕(Qt⊕Qu)):=
 bif !d.2.2.2.2.2 then
  some (.inr (.inr false))
 else some (.inl ())
def ZnR  (s5:(List Re)):Option (Qt⊕Qu):=
 some (.inl PUnit.unit)
abbrev Zyr  (s5:(List Re)) (i:Nat) (s:Unit):KB:=(s5,(s5.length:Int),(i:Int))
def ZgF  (s5:(List Re)) (s:Unit):Option (Qt⊕Qu):=Zp (fun i s d=>Zbc  s5 i  d) (fun s=>ZnR  s5 ) 0 s5 s
theorem Zyn  (s5:(List Re)) (s:Unit) (hl:s5.length<9223372036854775807):Zcf (s5,(s5.length:Int),0)=ZgF  s5 s:=by
 unfold Zcf ZgF
 refine Zs s5 (Zyr  s5) _ _ ?_ ?_ s (by unfold Zl;omega)
 ·intro i s d hi hd
  have e1:decide ((i:Int)<(s5.length:Int))=true:=dT0 (by omega)
  have e2:decide (0≤(i:Int))=true:=dT0 (by omega)
  have e3:Int.toNat (i:Int)=i:=tN0 i
  have e4:=Zq hi (Nat.le_of_lt hl)
  show Y4 (s5) ((s5.length:Int)) ((i:Int))=upd _ (Zbc  s5 i  d)
  unfold Y4 Zbc
  simp only [e1,e2,e3,e4,hd,cond_true,cond_false,Zb,ZC,ZF,ZD,ZI,ZJ,ZE]
 ·intro s
  have e1:decide ((s5.length:Int)<(s5.length:Int))=false:=dF0 (by omega)
  show Y4 (s5) ((s5.length:Int)) ((s5.length:Int))=_
  unfold Y4 ZnR
  rw [e1]
  rfl
abbrev Zx1:Type:=((List Int)×Int×Int×(List Int)×(List Int)×Int×(List C)×Int×Bool×(List En)×Int×Bool×(List Re)×(List Int)×(List Int)×Int×(List C)×(List Re))
abbrev Zx2:Type:=((List Int)×Int×Int×(List Int)×(List Int)×Int×(List C)×Int×Bool×Int×Bool×(List Int)×(List Int)×Int×(List C)×(List Re))
abbrev Zx3:Type:=((List Int)×(List Int)×(List Int)×Int×(List C)×Int×Bool×(List En)×Int×Bool×(List Re)×(List Re))
abbrev Zx4:Type:=((List Int)×Bool×(List Int)×(List Int)×Int×(List C)×Int×Bool×Int×Bool×(List Re)×(List En))
abbrev Zx5:Type:=((List Int)×(List Int)×(List Int)×Int×(List C)×Int×Bool×Int×Bool×(List Re))
def ZQr:List Sh:=[.dat tU]
def Zod:Nat→List Nat:=fun c=>bif c.beq 0 then [0,2,4,14,15] else [0,2]
def Zoc:Nat→List Nat:=fun c=>bif c.beq 0 then [1,2,3,4,5] else [2,3]
def Zq3:List Con:=[⟨43,Zuv,ZE2⟩,⟨45,ZHj,ZTM⟩,⟨46,ZuY,ZJZ⟩,⟨24,Zig,ZlG⟩,⟨73,ZwI,ZLM⟩,⟨72,ZHi,ZTL⟩,⟨74,ZEU,ZQ2⟩]
def ZhW:StS:=⟨[(0,.ptr 2 0),(2,.sl (.int .i64)),(4,.ptr 5 0),(14,.int .i64),(15,.int .i64)],[(0,.box [.sl (.int .i64),.sl (.int .i64),.int .i64,.sl tC]),(1,.box [.nil,.nil,.int .i64,.bool]),(2,.box [.row 6,.sl tEn,.int .i64,.bool]),(3,.row tR),(5,.box [.sl (.int .i64),.sl (.int .i64),.int .i64,.sl tC]),(6,.row tR)],7⟩
def ZaE:StS:=⟨[(0,.ptr 2 0),(2,.sl (.int .i64))],[(0,.box [.sl (.int .i64),.sl (.int .i64),.int .i64,.sl tC]),(1,.box [.nil,.nil,.int .i64,.bool]),(2,.box [.row 5,.sl tEn,.int .i64,.bool]),(3,.row tR),(5,.row tR)],6⟩
abbrev ZcM:=Zx1
def ZFI:StD ZhW→ZcM:=fun ((_,a,_,b,c,_),((d,e,f,g,_),(_,_,h,i,_),(_,j,k,l,_),m,(n,o,p,q,_),r,_))=>(a,b,c,d,e,f,g,h,i,j,k,l,m,n,o,p,q,r)
def ZGO:ZcM→StD ZhW:=fun (a,b,c,d,e,f,g,h,i,j,k,l,m,n,o,p,q,r)=>(((),a,(),b,c,()),((d,e,f,g,()),((),(),h,i,()),((),j,k,l,()),m,(n,o,p,q,()),r,()))
abbrev Zek:=Zx3
def ZWM:StD ZaE→Zek:=fun ((_,a,_),((b,c,d,e,_),(_,_,f,g,_),(_,h,i,j,_),k,l,_))=>(a,b,c,d,e,f,g,h,i,j,k,l)
def Zj0:Zek→StD ZaE:=fun (a,b,c,d,e,f,g,h,i,j,k,l)=>(((),a,()),((b,c,d,e,()),((),(),f,g,()),((),h,i,j,()),k,l,()))
def Zmb (s2:List Int) (gw j6:Int) (b0 g7:List Int) (g6:Int) (g5:List C) (b1:Int) (g8:Bool) (b2:List En) (gq:Int) (h9:Bool) (b3:List Re) (b5 j9:List Int) (ja:Int) (jb:List C) (b6:List Re):Option (Zx1⊕Zx3):=bif decide (j6<gw) then Za (Ya ((b5,j9,ja,jb),j6,b2,())) none fun ji=>bif decide ((b6.length+[ji].length+1)*112≤lim) then some (.inl (s2,gw,i64.wrap (j6+1),b0,g7,g6,g5,b1,g8,b2,gq,h9,b3,b5,j9,ja,jb,b6++[ji])) else none else some (.inr (s2,b0,g7,g6,g5,b1,g8,b2,gq,h9,b3,b6))
def ZbS:ZcM→Option (ZcM⊕Zek):=fun (a,b,c,d,e,f,g,h,i,j,k,l,m,n,o,p,q,r)=>Zmb a b c d e f g h i j k l m n o p q r
def Zhj (x:ZcM):Option Zek:=Zh ZbS Zl x
def ZhV:StS:=⟨[(0,.ptr 2 0),(2,.sl (.int .i64)),(4,.ptr 3 0),(14,.int .i64),(15,.int .i64)],[(0,.box [.sl (.int .i64),.sl (.int .i64),.int .i64,.sl tC]),(1,.box [.nil,.nil,.int .i64,.bool]),(2,.box [.row 4,.nil,.int .i64,.bool]),(3,.box [.sl (.int .i64),.sl (.int .i64),.int .i64,.sl tC]),(4,.row tR)],5⟩
def ZaD:StS:=⟨[(0,.ptr 2 0),(2,.sl (.int .i64))],[(0,.box [.sl (.int .i64),.sl (.int .i64),.int .i64,.sl tC]),(1,.box [.nil,.nil,.int .i64,.bool]),(2,.box [.row 3,.nil,.int .i64,.bool]),(3,.row tR)],4⟩
abbrev ZcL:=Zx2
def ZFH:StD ZhV→ZcL:=fun ((_,a,_,b,c,_),((d,e,f,g,_),(_,_,h,i,_),(_,_,j,k,_),(l,m,n,o,_),p,_))=>(a,b,c,d,e,f,g,h,i,j,k,l,m,n,o,p)
def ZGN:ZcL→StD ZhV:=fun (a,b,c,d,e,f,g,h,i,j,k,l,m,n,o,p)=>(((),a,(),b,c,()),((d,e,f,g,()),((),(),h,i,()),((),(),j,k,()),(l,m,n,o,()),p,()))
abbrev Zej:=Zx5
def ZWL:StD ZaD→Zej:=fun ((_,a,_),((b,c,d,e,_),(_,_,f,g,_),(_,_,h,i,_),j,_))=>(a,b,c,d,e,f,g,h,i,j)
def ZjZ:Zej→StD ZaD:=fun (a,b,c,d,e,f,g,h,i,j)=>(((),a,()),((b,c,d,e,()),((),(),f,g,()),((),(),h,i,()),j,()))
def ZGB (s2:List Int) (gw j6:Int) (b0 g7:List Int) (g6:Int) (g5:List C) (b1:Int) (g8:Bool) (b2:Int) (gq:Bool) (b3 jc:List Int) (jd:Int) (je:List C) (b4:List Re):Option (Zx2⊕Zx5):=bif decide (j6<gw) then Za (Ya ((b3,jc,jd,je),j6,[],())) none fun j4=>bif decide ((b4.length+[j4].length+1)*112≤lim) then some (.inl (s2,gw,i64.wrap (j6+1),b0,g7,g6,g5,b1,g8,b2,gq,b3,jc,jd,je,b4++[j4])) else none else some (.inr (s2,b0,g7,g6,g5,b1,g8,b2,gq,b4))
def Zr4:ZcL→Option (ZcL⊕Zej):=fun (a,b,c,d,e,f,g,h,i,j,k,l,m,n,o,p)=>ZGB a b c d e f g h i j k l m n o p
def ZG4 (x:ZcL):Option Zej:=Zh Zr4 Zl x
def Zxu:Nat→Tm→Prog (Nat×Tm):=(varP 3 (fun T h=>(rdS ZhV T h).map ZFH) ZG4 (altE 2 ZaD ZjZ) (varP 5 (fun T h=>(rdS ZhW T h).map ZFI) Zhj (altE 2 ZaE Zj0) (fun _ _=>.fail)))
def Zoh:Lpc:=⟨44,0,58,(slP [(0,0,tR)] [(0,1)] [] (Zod 0) (fun base T=>.norm base (Zod 0) T (Zxu base))),by kernel_rfl,by kernel_rfl,(ZLJ (loopU Zq3 [] 40 1048576 8 (keep:=Zod) (q:=Zxu) (by kernel_rfl) (Zv (s:=ZhV) (un:=ZGN) (by rfl) (fun _=>rfl) (Zn (s:=ZaD) (un:=ZjZ) (flat:=ZWL) (by rfl) (fun _=>rfl)) (step:=Zr4) (fun _=>by kernel_rfl) (fun _ _ e=>⟨_,e⟩) (Zm 2 ZaD ZjZ) (Zv (s:=ZhW) (un:=ZGO) (by rfl) (fun _=>rfl) (Zn (s:=ZaE) (un:=Zj0) (flat:=ZWM) (by rfl) (fun _=>rfl)) (step:=ZbS) (fun _=>by kernel_rfl) (fun _ _ e=>⟨_,e⟩) (Zm 2 ZaE Zj0) (ZB.fail _ _)))))⟩
abbrev Z0S:=cxU Zq3 [Zoh] 40 1048576
def ZhU:StS:=⟨[(1,.ptr 0 0),(2,.ptr 1 0),(3,.ptr 2 0),(4,.sl (.int .i64)),(5,.bool)],[(0,.box [.sl (.int .i64),.sl (.int .i64),.int .i64,.sl tC]),(1,.box [.nil,.nil,.int .i64,.bool]),(2,.box [.row 3,.row 4,.int .i64,.bool]),(3,.row tR),(4,.row tEn)],5⟩
def ZaC:StS:=⟨[(2,.ptr 0 0),(3,.ptr 1 0)],[(0,.box [.nil,.nil,.int .i64,.bool]),(1,.box [.row 2,.row 3,.int .i64,.bool]),(2,.row tR),(3,.row tEn)],4⟩
abbrev ZcK:=Zx4
def ZFG:StD ZhU→ZcK:=fun ((_,_,_,a,b,_),((c,d,e,f,_),(_,_,g,h,_),(_,_,i,j,_),k,l,_))=>(a,b,c,d,e,f,g,h,i,j,k,l)
def ZGM:ZcK→StD ZhU:=fun (a,b,c,d,e,f,g,h,i,j,k,l)=>(((),(),(),a,b,()),((c,d,e,f,()),((),(),g,h,()),((),(),i,j,()),k,l,()))
abbrev Zei:=(Int×Bool×Int×Bool×(List Re)×(List En))
def ZWK:StD ZaC→Zei:=fun ((_,_,_),((_,_,a,b,_),(_,_,c,d,_),e,f,_))=>(a,b,c,d,e,f)
def ZjY:Zei→StD ZaC:=fun (a,b,c,d,e,f)=>(((),(),()),(((),(),a,b,()),((),(),c,d,()),e,f,()))
def Zgw (s4:List Int) (s5:Bool) (b0 g7:List Int) (g6:Int) (g5:List C) (b1:Int) (g8:Bool) (b2:Int) (gq:Bool) (b3:List Re) (b4:List En):Option (Zx4⊕(Int×Bool×Int×Bool×(List Re)×(List En))):=bif !s5 then bif decide (b2<20) then Za (Zhj (s4,(g5.length:Int),0,b0,g7,g6,g5,b1,g8,b4,i64.wrap (b2+1),gq,b3,b0,g7,g6,g5,[])) none fun gp=>Za (Znw (gp.2.2.2.2.2.2.2.2.2.2.2,())) none fun gl=>Za (ZvW (gp.2.2.2.2.2.2.2.1,gl,())) none fun gn=>bif decide (gp.2.2.2.2.2.2.2.2.1>3) then Za (Zs4 (gp.2.2.2.2.2.2.2.1,gn,gp.1,())) none fun gu=>Za (Zp6 (gu,gp.2.2.2.2.2.2.2.1,())) none fun j4=>bif j4 then Za (Zha (gp.2.2.2.2.2.2.2.2.2.2.2,())) none fun jl=>some (.inl (s4,j4,gp.2.1,gp.2.2.1,gp.2.2.2.1,gp.2.2.2.2.1,gp.2.2.2.2.2.1,gp.2.2.2.2.2.2.1,gp.2.2.2.2.2.2.2.2.1,jl,gp.2.2.2.2.2.2.2.2.2.2.2,gu)) else some (.inl (s4,j4,gp.2.1,gp.2.2.1,gp.2.2.2.1,gp.2.2.2.2.1,gp.2.2.2.2.2.1,gp.2.2.2.2.2.2.1,gp.2.2.2.2.2.2.2.2.1,false,gp.2.2.2.2.2.2.2.2.2.2.2,gu)) else Za (Zp6 (gn,gp.2.2.2.2.2.2.2.1,())) none fun gu=>bif gu then Za (Zha (gp.2.2.2.2.2.2.2.2.2.2.2,())) none fun j4=>some (.inl (s4,gu,gp.2.1,gp.2.2.1,gp.2.2.2.1,gp.2.2.2.2.1,gp.2.2.2.2.2.1,gp.2.2.2.2.2.2.1,gp.2.2.2.2.2.2.2.2.1,j4,gp.2.2.2.2.2.2.2.2.2.2.2,gn)) else some (.inl (s4,gu,gp.2.1,gp.2.2.1,gp.2.2.2.1,gp.2.2.2.2.1,gp.2.2.2.2.2.1,gp.2.2.2.2.2.2.1,gp.2.2.2.2.2.2.2.2.1,false,gp.2.2.2.2.2.2.2.2.2.2.2,gn)) else some (.inr (b1,g8,b2,gq,b3,b4))
 else some (.inr (b1,g8,b2,gq,b3,b4))
def HL:ZcK→Option (ZcK⊕Zei):=fun (a,b,c,d,e,f,g,h,i,j,k,l)=>Zgw a b c d e f g h i j k l
def Zhi (x:ZcK):Option Zei:=Zh HL Zl x
def Zxt:Nat→Tm→Prog (Nat×Tm):=(varP 0 (fun T h=>(rdS ZhU T h).map ZFG) Zhi (altE 2 ZaC ZjY) (fun _ _=>.fail))
def ZJD:Lpc:=⟨18,0,38,(ownP [(2,0,tR),(2,1,tEn),(2,0,tR),(2,1,tEn),(2,0,tR),(2,1,tEn),(2,0,tR),(2,1,tEn)] [] (Zoc 0) (fun base T=>.norm base (Zoc 0) T (Zxt base))),by kernel_rfl,by kernel_rfl,(Ja (loopU Zq3 [Zoh] 40 1048576 8 (keep:=Zoc) (q:=Zxt) (by kernel_rfl) (Zv (s:=ZhU) (un:=ZGM) (by rfl) (fun _=>rfl) (Zn (s:=ZaC) (un:=ZjY) (flat:=ZWK) (by rfl) (fun _=>rfl)) (step:=HL) (fun _=>by kernel_rfl) (fun _ _ e=>⟨_,e⟩) (Zm 2 ZaC ZjY) (ZB.fail _ _))))⟩
def Zfa (a0:U):Option RRe:=Za (Zlv (a0,())) none fun d5=>Za (Zhi (d5,false,a0.1,a0.2.1,a0.2.2.1,a0.2.2.2,0,false,0,false,[],[])) none fun d6=>some (d6.2.2.2.2.1,d6.2.2.2.2.2,d6.2.2.1,d6.2.2.2.1)
def QS (x:U×Unit):Option RRe:=Zfa x.1
def Zg3:=conP true ZQr (.dat tRR) QS
theorem Zlq:Zf prog 18 Zg3:=Ze (calU Zq3 [Zoh,ZJD] 40 1048576 8 18) true (by rfl) (by rfl) (fun x r e=>(Zk _ _ _ _ _ _ _).trans ((show _=QS x by kernel_rfl).trans e)) (.inl rfl)
abbrev Zya:Type:=((List Int)×Int×(List Int)×(List Int)×Int×(List C)×Int×Bool×(List En)×Int×Bool×(List Re)×(List En))
abbrev Zyb:Type:=((List Int)×(List Int)×(List Int)×Int×(List C)×Int×Bool×(List En)×Int×Bool×(List Re)×(List En))
abbrev Zyc:Type:=((List Int)×Bool×(List Int)×(List Int)×Int×(List C)×Int×Bool×Int×Bool×(List Re)×(List En))
abbrev ZcR:=Zya
abbrev Zep:=Zyb
def Zmd (s4:List Int) (s7:Int) (b0 g7:List Int) (g6:Int) (g5:List C) (b1:Int) (g8:Bool) (b2:List En) (gq:Int) (h9:Bool) (b3:List Re) (b4:List En):Option (Zya⊕Zyb):=bif decide (s7<(g5.length:Int)) then Za (Zid ((b0,g7,g6,g5),s7,b2,())) none fun gn=>bif decide ((b3.length+[gn].length+1)*112≤lim) then Za (Kx (b4,gn.2.1,())) none fun gu=>some (.inl (s4,i64.wrap (s7+1),b0,g7,g6,g5,b1,g8,b2,gq,h9,b3++[gn],gu)) else none else some (.inr (s4,b0,g7,g6,g5,b1,g8,b2,gq,h9,b3,b4))
def ZbU:ZcR→Option (ZcR⊕Zep):=fun (a,b,c,d,e,f,g,h,i,j,k,l,m)=>Zmd a b c d e f g h i j k l m
def Zhp (x:ZcR):Option Zep:=Zh ZbU Zl x
abbrev ZcP:=Zyc
abbrev Zen:=(Bool×Int×Bool×Int×Bool×(List Re)×(List En))
def Zgy (s4:List Int) (s5:Bool) (b0 g7:List Int) (g6:Int) (g5:List C) (b1:Int) (g8:Bool) (b2:Int) (gq:Bool) (b3:List Re) (b4:List En):Option (Zyc⊕(Bool×Int×Bool×Int×Bool×(List Re)×(List En))):=bif !s5 then bif decide (b2<20) then Za (Zhp (s4,0,b0,g7,g6,g5,b1,g8,b4,i64.wrap (b2+1),gq,[],[])) none fun gl=>Za (Kx (gl.2.2.2.2.2.2.2.1,gl.2.2.2.2.2.2.2.2.2.2.2,())) none fun gn=>bif decide (gl.2.2.2.2.2.2.2.2.1>3) then Za (ZoQ (gl.2.2.2.2.2.2.2.1,gn,gl.1,())) none fun gu=>Za (WI (gu,gl.2.2.2.2.2.2.2.1,())) none fun j4=>some (.inl (gl.1,j4,gl.2.1,gl.2.2.1,gl.2.2.2.1,gl.2.2.2.2.1,gl.2.2.2.2.2.1,gl.2.2.2.2.2.2.1,gl.2.2.2.2.2.2.2.2.1,gl.2.2.2.2.2.2.2.2.2.1,gl.2.2.2.2.2.2.2.2.2.2.1,gu)) else Za (WI (gn,gl.2.2.2.2.2.2.2.1,())) none fun gu=>some (.inl (gl.1,gu,gl.2.1,gl.2.2.1,gl.2.2.2.1,gl.2.2.2.2.1,gl.2.2.2.2.2.1,gl.2.2.2.2.2.2.1,gl.2.2.2.2.2.2.2.2.1,gl.2.2.2.2.2.2.2.2.2.1,gl.2.2.2.2.2.2.2.2.2.2.1,gn)) else some (.inr (s5,b1,g8,b2,gq,b3,b4)) else some (.inr (s5,b1,g8,b2,gq,b3,b4))
def HN:ZcP→Option (ZcP⊕Zen):=fun (a,b,c,d,e,f,g,h,i,j,k,l)=>Zgy a b c d e f g h i j k l
def Zho (x:ZcP):Option Zen:=Zh HN Zl x
abbrev ZcS:=(Int×Int×Bool×Int×Bool×(List Re)×(List En))
abbrev Zeq:=(Int×Bool×Int×Bool×(List Re)×(List En))
def Zme (j8 b0:Int) (g7:Bool) (b1:Int) (g8:Bool) (b2:List Re) (b3:List En):Option ((Int×Int×Bool×Int×Bool×(List Re)×(List En))⊕(Int×Bool×Int×Bool×(List Re)×(List En))):=bif decide (j8<(b2.length:Int)) then bif g8 then bif decide (0≤j8) then Za b2[j8.toNat]? none fun j7=>Za b2[j8.toNat]? none fun gv=>some (.inl (i64.wrap (j8+1),b0,g7,b1,gv.2.2.2.2.2,b2,b3)) else none else some (.inl (i64.wrap (j8+1),b0,g7,b1,false,b2,b3)) else some (.inr (b0,g7,b1,g8,b2,b3))
def ZbV:ZcS→Option (ZcS⊕Zeq):=fun (a,b,c,d,e,f,g)=>Zme a b c d e f g
def Zhq (x:ZcS):Option Zeq:=Zh ZbV Zl x
def ZzK (a0:U):Option RRe:=Za (Zjk (a0,())) none fun d6=>Za (Zho (d6,false,a0.1,a0.2.1,a0.2.2.1,a0.2.2.2,0,false,0,false,[],[])) none fun d7=>Za (Zhq (0,d7.2.1,d7.2.2.1,d7.2.2.2.1,d7.1,d7.2.2.2.2.2)) none fun d8=>some (d8.2.2.2.2.1,d8.2.2.2.2.2,d8.2.2.1,d8.2.2.2.1)
section
open Go.Proofs
def sumC (r:List C):Nat:=(r.map fun c=>c.2.length).sum
theorem Zzj (c:C) (r:List C):sumC (c::r)=c.2.length+sumC r:=by simp [sumC]
theorem Z2o (U0 U1:List Int) (U2:Int) (U3:List C):∀ (l:List C) (i:Nat) (s:Int),(∀ c∈l,c.2.length≤60)→0≤s→s≤45→
  (Zp (fun i s d=>Qz 45 U0 U1 U2 U3 i s d) (fun s=>HK 45 U0 U1 U2 U3 s) i l s=some (.inl (U0,U1,U2,U3))∧s+(sumC l:Int)≤45) ∨
  Zp (fun i s d=>Qz 45 U0 U1 U2 U3 i s d) (fun s=>HK 45 U0 U1 U2 U3 s) i l s=some (.inr (true,U0,U1,U2,U3))
 | [],i,s,_,_,h=>.inl ⟨rfl,by simpa [sumC] using h⟩
 | d::r,i,s,hl,h0,h1=>by
  simp only [Zp]
  have hd:=hl d (by simp)
  have h:Qz 45 U0 U1 U2 U3 i s d=bif decide (i64.wrap (s+(d.2.length:Int))>45) then some (.inr (.inr (true,U0,U1,U2,U3))) else some (.inl (i64.wrap (s+(d.2.length:Int)))):=rfl
  have w:i64.wrap (s+(d.2.length:Int))=s+(d.2.length:Int):=ZdN (by omega) (by omega)
  rw [h,w]
  by_cases q:s+(d.2.length:Int)>45
  ·rw [dT0 q];exact .inr rfl
  ·rw [dF0 q]
   rcases Z2o U0 U1 U2 U3 r (i+1) (s+(d.2.length:Int)) (fun c hc=>hl c (by simp [hc])) (by omega) (by omega) with k | k
   ·exact .inl ⟨k.1,by rw [Zzj];have:=k.2;omega⟩
   ·exact .inr k
theorem ZR8 (most:Int) (U0 U1:List Int) (U2:Int) (U3:List C):∀ (l:List C) (i:Nat) (s:Int),
  Zp (fun i s d=>Qz most U0 U1 U2 U3 i s d) (fun s=>HK most U0 U1 U2 U3 s) i l s=some (.inl (U0,U1,U2,U3)) ∨
  Zp (fun i s d=>Qz most U0 U1 U2 U3 i s d) (fun s=>HK most U0 U1 U2 U3 s) i l s=some (.inr (true,U0,U1,U2,U3))
 | [],i,s=>.inl rfl
 | d::r,i,s=>by
  simp only [Zp]
  have h:Qz most U0 U1 U2 U3 i s d=bif decide (i64.wrap (s+(d.2.length:Int))>most) then some (.inr (.inr (true,U0,U1,U2,U3))) else some (.inl (i64.wrap (s+(d.2.length:Int)))):=rfl
  rw [h]
  cases decide (i64.wrap (s+(d.2.length:Int))>most)
  ·exact ZR8 most U0 U1 U2 U3 r (i+1) _
  ·exact .inr rfl
theorem ZzU (u:U) (hs:sizeU u):∃ b,Zta u 45=some b∧(b=false→unitOK u∧sumC u.2.2.2≤45):=by
 unfold Zta Zpm
 by_cases h1:(u.2.2.2.length:Int)>4
 ·rw [dT0 h1];exact ⟨_,rfl,fun k=>nomatch k⟩
 by_cases h2:(u.1.length:Int)>10
 ·rw [dF0 h1,dT0 h2];exact ⟨_,rfl,fun k=>nomatch k⟩
 by_cases h3:(u.2.1.length:Int)>10
 ·rw [dF0 h1,dF0 h2,dT0 h3];exact ⟨_,rfl,fun k=>nomatch k⟩
 rw [dF0 h1,dF0 h2,dF0 h3]
 simp only [cond_false]
 have q:=ZGd 45 u.1 u.2.1 u.2.2.1 u.2.2.2 0 hs.2.2.1
 have q2:ZcE (45,0,0,u)=_:=q
 rw [q2]
 unfold Zl3
 obtain ⟨b,hb,hk⟩:=ZPD u hs
 have hb2:ZtA (u.1,u.2.1,u.2.2.1,u.2.2.2)=some b:=hb
 cases b
 ·rcases ZR8 45 u.1 u.2.1 u.2.2.1 u.2.2.2 u.2.2.2 0 0 with h | h
  ·rw [h]
   simp only [Zb,Sum.elim_inl,hb2]
   exact ⟨_,rfl,fun k=>nomatch k⟩
  ·rw [h]
   exact ⟨true,rfl,fun k=>nomatch k⟩
 ·have hu:=hk rfl
  rcases Z2o u.1 u.2.1 u.2.2.1 u.2.2.2 u.2.2.2 0 0 (fun c hc=>(hu.ts c hc).n.2) (by decide) (by decide) with ⟨h,h'⟩ | h
  ·rw [h]
   simp only [Zb,Sum.elim_inl,hb2]
   exact ⟨_,rfl,fun _=>⟨hu,by omega⟩⟩
  ·rw [h]
   exact ⟨true,rfl,fun k=>nomatch k⟩
def thrR (u:U) (tab:List En) (i:Nat) (r:List C):List Re:=r.mapIdx fun j c=>resV u ((i+j:Nat):Int) tab (Zt u) c
def stoR (s:List En) (r:List Re):List En:=r.foldl (fun s x=>addT Zg s x.2.1) s
theorem ZxX (u:U) (tab:List En) (i:Nat) (c:C) (r:List C):thrR u tab i (c::r)=resV u (i:Int) tab (Zt u) c::thrR u tab (i+1) r:=by
 unfold thrR
 rw [List.mapIdx_cons]
 simp only [Nat.add_zero]
 congr 2
 funext j c
 rw [show i+(j+1)=i+1+j by omega]
theorem ZBU (u:U) (tab:List En) (i:Nat) (r:List C):(thrR u tab i r).length=r.length:=by simp [thrR]
section
variable {u:U} {tab:List En}
theorem Zwt (hu:unitOK u) (hl:tabOK tab) (hn:tab.length≤1000) {i:Nat} {c:C} (hc:u.2.2.2[i]? = some c):tabOK (resV u (i:Int) tab (Zt u) c).2.1∧(resV u (i:Int) tab (Zt u) c).2.1.length≤c.2.length∧Zki u (i:Int) tab=some (resV u (i:Int) tab (Zt u) c)∧ZlB u (i:Int) tab=some (resV u (i:Int) tab (Zt u) c):=by
 obtain ⟨r1,r2,v,g⟩:=ZnL (t:=(i:Int)) hu (by omega) hl hn (by rw [tN0];exact hc)
 exact ⟨g.k,g.a,r1,r2⟩
theorem ZT7 (hu:unitOK u) (hl:tabOK tab) (hn:tab.length≤1000):∀ (r:List C) (i:Nat) (s:List En),u.2.2.2.drop i=r→tabOK s→tabOK (stoR s (thrR u tab i r))∧(stoR s (thrR u tab i r)).length≤s.length+sumC r
 | [],i,s,hd,hs=>⟨hs,by simp [stoR,thrR,sumC]⟩
 | c::r,i,s,hd,hs=>by
  have hc:u.2.2.2[i]? = some c:=by
   have:=congrArg (fun q=>q[0]?) hd
   simpa using this
  obtain ⟨h1,h2,_,_⟩:=Zwt hu hl hn hc
  have ih:=ZT7 hu hl hn r (i+1) (addT Zg s (resV u (i:Int) tab (Zt u) c).2.1) (by rw [← List.drop_drop,hd];rfl) (Zfk Zcb hs h1.a)
  have ln:=Zlz Zg (resV u (i:Int) tab (Zt u) c).2.1 s
  rw [ZxX,Zzj]
  exact ⟨ih.1,by have:=ih.2;show (stoR (addT Zg s (resV u (i:Int) tab (Zt u) c).2.1) (thrR u tab (i+1) r)).length≤_;omega⟩
theorem Z6e (hu:unitOK u) (hl:tabOK tab) (hn:tab.length≤1000) {s2:List Int} {b1:Int} {g8:Bool} {x:Int} {y:Bool} {b3:List Re} :
  Zhj (s2,(u.2.2.2.length:Int),0,u.1,u.2.1,u.2.2.1,u.2.2.2,b1,g8,tab,x,y,b3,u.1,u.2.1,u.2.2.1,u.2.2.2,[])=some (s2,u.1,u.2.1,u.2.2.1,u.2.2.2,b1,g8,tab,x,y,b3,thrR u tab 0 u.2.2.2):=by
 have ut:=hu.t
 have go:∀ (r:List C) (i:Nat) (s:List Re) (k:Nat),u.2.2.2.drop i=r→i+r.length=u.2.2.2.length→s.length≤i→
   Zh ZbS (k+r.length+1) (s2,(u.2.2.2.length:Int),(i:Int),u.1,u.2.1,u.2.2.1,u.2.2.2,b1,g8,tab,x,y,b3,u.1,u.2.1,u.2.2.1,u.2.2.2,s) =
    some (s2,u.1,u.2.1,u.2.2.1,u.2.2.2,b1,g8,tab,x,y,b3,s++thrR u tab i r):=by
  intro r
  induction r with
  | nil=>
   intro i s k hd hi hs
   have e:decide ((i:Int)<(u.2.2.2.length:Int))=false:=dF0 (by simp at hi;omega)
   simp only [Zh,ZbS,Zmb,e,cond_false]
   simp [thrR]
  | cons c r ih=>
   intro i s k hd hi hs
   rw [List.length_cons] at hi ⊢
   have hc:u.2.2.2[i]? = some c:=by
    have:=congrArg (fun q=>q[0]?) hd
    simpa using this
   have e:decide ((i:Int)<(u.2.2.2.length:Int))=true:=dT0 (by omega)
   have w:=Zq (i:=i) (n:=u.2.2.2.length) (by omega) (by omega)
   have f:Zki (u.1,u.2.1,u.2.2.1,u.2.2.2) (i:Int) tab=_:=(Zwt hu hl hn hc).2.2.1
   have lm:decide ((s.length+(0+1)+1)*112≤lim)=true:=dT0 (by unfold lim;omega)
   rw [show k+(r.length+1)+1=(k+r.length+1)+1 by omega,Zh,ZxX]
   simp only [ZbS,Zmb,e,cond_true,Ya,f,Zb,List.length_cons,List.length_nil,lm,w]
   have:=ih (i+1) (s++[resV u (i:Int) tab (Zt u) c]) k (by rw [← List.drop_drop,hd];rfl) (by omega) (by rw [List.length_append];simp;omega)
   rw [List.append_assoc] at this
   exact this
 unfold Zhj
 have:=go u.2.2.2 0 [] (Zl - u.2.2.2.length - 1) rfl (by simp) (by simp)
 rw [show Zl - u.2.2.2.length - 1+u.2.2.2.length+1=Zl by unfold Zl;omega,List.nil_append] at this
 exact this
theorem Z6i (hu:unitOK u) (hl:tabOK tab) (hn:tab.length≤1000) (h45:sumC u.2.2.2≤45) {s4:List Int} {b1:Int} {g8:Bool} {x:Int} {y:Bool} :
  Zhp (s4,0,u.1,u.2.1,u.2.2.1,u.2.2.2,b1,g8,tab,x,y,[],[])=some (s4,u.1,u.2.1,u.2.2.1,u.2.2.2,b1,g8,tab,x,y,thrR u tab 0 u.2.2.2,stoR [] (thrR u tab 0 u.2.2.2)):=by
 have ut:=hu.t
 have go:∀ (r:List C) (i:Nat) (s:List Re) (q:List En) (k:Nat),u.2.2.2.drop i=r→i+r.length=u.2.2.2.length→s.length≤i→tabOK q→q.length+sumC r≤45→
   Zh ZbU (k+r.length+1) (s4,(i:Int),u.1,u.2.1,u.2.2.1,u.2.2.2,b1,g8,tab,x,y,s,q) =
    some (s4,u.1,u.2.1,u.2.2.1,u.2.2.2,b1,g8,tab,x,y,s++thrR u tab i r,stoR q (thrR u tab i r)):=by
  intro r
  induction r with
  | nil=>
   intro i s q k hd hi hs _ _
   have e:decide ((i:Int)<(u.2.2.2.length:Int))=false:=dF0 (by simp at hi;omega)
   simp only [Zh,ZbU,Zmd,e,cond_false]
   simp [thrR,stoR]
  | cons c r ih=>
   intro i s q k hd hi hs hq hm
   rw [List.length_cons] at hi ⊢
   have hc:u.2.2.2[i]? = some c:=by
    have:=congrArg (fun q=>q[0]?) hd
    simpa using this
   have e:decide ((i:Int)<(u.2.2.2.length:Int))=true:=dT0 (by omega)
   have w:=Zq (i:=i) (n:=u.2.2.2.length) (by omega) (by omega)
   obtain ⟨k1,k2,_,k4⟩:=Zwt hu hl hn hc
   have f:ZlB (u.1,u.2.1,u.2.2.1,u.2.2.2) (i:Int) tab=_:=k4
   have lm:decide ((s.length+(0+1)+1)*112≤lim)=true:=dT0 (by unfold lim;omega)
   rw [Zzj] at hm
   have add:Zcp q (resV u (i:Int) tab (Zt u) c).2.1=some (addT Zg q (resV u (i:Int) tab (Zt u) c).2.1):=by rw [Zne _ _ (by omega),Zwy hq.e k1.a]
   have ln:=Zlz Zg (resV u (i:Int) tab (Zt u) c).2.1 q
   rw [show k+(r.length+1)+1=(k+r.length+1)+1 by omega,Zh,ZxX]
   simp only [ZbU,Zmd,e,cond_true,Zid,f,Zb,List.length_cons,List.length_nil,lm,Kx,add,w]
   have:=ih (i+1) (s++[resV u (i:Int) tab (Zt u) c]) (addT Zg q (resV u (i:Int) tab (Zt u) c).2.1) k (by rw [← List.drop_drop,hd];rfl) (by omega) (by rw [List.length_append];simp;omega) (Zfk Zcb hq k1.a) (by omega)
   rw [List.append_assoc] at this
   exact this
 unfold Zhp
 have:=go u.2.2.2 0 [] [] (Zl - u.2.2.2.length - 1) rfl (by simp) (by simp) Za5 (by simpa using h45)
 rw [show Zl - u.2.2.2.length - 1+u.2.2.2.length+1=Zl by unfold Zl;omega,List.nil_append] at this
 exact this
theorem Z1J (hu:unitOK u) (hl:tabOK tab) (hn:tab.length≤1000) (h45:sumC u.2.2.2≤45):Zsx (thrR u tab 0 u.2.2.2)=some (stoR [] (thrR u tab 0 u.2.2.2)):=by
 have ut:=hu.t
 have tl:=ZBU u tab 0 u.2.2.2
 unfold Zsx
 rw [ZzY _ [] (by omega)]
 unfold Zim
 generalize hL:thrR u tab 0 u.2.2.2=L at *
 have go:∀ (r:List C) (i j:Nat) (s:List En),u.2.2.2.drop i=r→tabOK s→s.length+sumC r≤45→Zp (fun i s d=>HT L i s d) (fun s=>Zii L s) j (thrR u tab i r) s=some (stoR s (thrR u tab i r)):=by
  intro r
  induction r with
  | nil=>exact fun i j s _ _ _=>rfl
  | cons c r ih=>
   intro i j s hd hs hm
   have hc:u.2.2.2[i]? = some c:=by
    have:=congrArg (fun q=>q[0]?) hd
    simpa using this
   obtain ⟨k1,k2,_,_⟩:=Zwt hu hl hn hc
   rw [Zzj] at hm
   have ln:=Zlz Zg (resV u (i:Int) tab (Zt u) c).2.1 s
   rw [ZxX,Qq (s':=addT Zg s (resV u (i:Int) tab (Zt u) c).2.1) (by unfold HT;simp only [Zhb,ZIe _ _ hs.srt (show s.length+(resV u (i:Int) tab (Zt u) c).2.1.length≤1000000000 by omega),Zb])]
   exact ih (i+1) (j+1) _ (by rw [← List.drop_drop,hd];rfl) (Zfk Zcb hs k1.a) (by omega)
 have:=go u.2.2.2 0 0 [] rfl Za5 (by simpa using h45)
 rw [hL] at this
 rw [this]
 rfl
theorem ZZ2 (l:List Re) (h:l.length≤1000):Zqw l=some (l.all fun r=>r.2.2.2.2.2):=by
 unfold Zqw
 rw [Zyn l () (by omega)]
 unfold ZgF
 rw [Vo (p:=fun _ r=>r.2.2.2.2.2) (o:=.inr false) l 0 fun j d hd=>?_,Zpn]
 ·cases l.all fun r=>r.2.2.2.2.2<;>rfl
 ·unfold Zbc
  cases d.2.2.2.2.2<;>rfl
end
end
section
open Go.Proofs
theorem ZYk {a b:List En} (ha:tabOK a) (hb:tabOK b):addT Zg a (addT Zg a b)=addT Zg a b:=by
 have j:=Zfk Zcb ha hb.a
 refine Zwu (ZlA ha.srt) (ZlA ha.srt) fun k=>?_
 rw [Zg2 k j.srt j.e ha.srt,Zg2 k hb.srt hb.e ha.srt]
 cases hu:tget a k with
 | none=>cases tget b k<;>rfl
 | some u=>
  have ou:=ZqB ha.e hu
  cases hv:tget b k with
  | none=>simp only [bothO,optV];rw [ZDa ou.2 ou.2 (ZdP u)]
  | some v=>
   have ov:=ZqB hb.e hv
   simp only [bothO,optV]
   rw [Zfb u (Zg u v),ZDa (by rw [ZDb,ou.2];rfl) ou.2 (ZSW u v)]
def nxtT (u:U) (tab:List En) (r:Int):List En:=
 if r>3 then addT (widF (Zt u)) tab (addT Zg tab (stoR [] (thrR u tab 0 u.2.2.2))) else addT Zg tab (stoR [] (thrR u tab 0 u.2.2.2))
def allD (l:List Re):Bool:=l.all fun r=>r.2.2.2.2.2
def outL (u:U):Nat→List Re→List En→Int→Bool→List Re×List En×Int×Bool
 | 0,R,tab,r,d=>(R,tab,r,d)
 | n+1,R,tab,r,d=>bif d then (R,tab,r,d) else outL u n (thrR u tab 0 u.2.2.2) (nxtT u tab (r+1)) (r+1) (decide (nxtT u tab (r+1)=tab))
section
variable {u:U} {tab:List En}
theorem ZXo (hu:unitOK u) (h45:sumC u.2.2.2≤45) {r:Int} (h:TInv u r tab) (h0:0≤r) (hr:r≤20):TInv u (r+1) (nxtT u tab (r+1))∧tabOK (stoR [] (thrR u tab 0 u.2.2.2))∧(stoR [] (thrR u tab 0 u.2.2.2)).length≤45∧tabOK (addT Zg tab (stoR [] (thrR u tab 0 u.2.2.2))):=by
 have hn:=h.n
 have hN:tab.length≤1000:=by omega
 obtain ⟨s1,s2⟩:=ZT7 hu h.k hN u.2.2.2 0 [] rfl Za5
 have s2:(stoR [] (thrR u tab 0 u.2.2.2)).length≤45:=by simp at s2;omega
 have j1:=Zfk Zcb h.k s1.a
 have l1:=Zlz Zg (stoR [] (thrR u tab 0 u.2.2.2)) tab
 have l2:=Zlz (widF (Zt u)) (addT Zg tab (stoR [] (thrR u tab 0 u.2.2.2))) tab
 have w1:=Zfk (Z3e (Zt u)) h.k j1.a
 refine ⟨⟨?_,?_⟩,s1,s2,j1⟩
 ·unfold nxtT
  split
  ·exact w1
  ·exact j1
 ·unfold nxtT
  split
  ·have:(addT (widF (Zt u)) tab (addT Zg tab (stoR [] (thrR u tab 0 u.2.2.2)))).length≤(addT Zg tab (stoR [] (thrR u tab 0 u.2.2.2))).length:=by
    rw [← ZUc h.k j1,List.length_map]
    have k1:addT rJoin tab (addT Zg tab (stoR [] (thrR u tab 0 u.2.2.2)))=addT Zg tab (addT Zg tab (stoR [] (thrR u tab 0 u.2.2.2))):=(Zwy h.k.e j1.a).symm
    rw [k1]
    have k2:addT Zg tab (addT Zg tab (stoR [] (thrR u tab 0 u.2.2.2)))=addT Zg tab (stoR [] (thrR u tab 0 u.2.2.2)):=ZYk h.k s1
    rw [k2]
    exact Nat.le_refl _
   omega
  ·omega
theorem ZXq (hu:unitOK u) (h45:sumC u.2.2.2≤45):∀ (n:Nat) (R:List Re) (tab:List En) (r:Int) (d:Bool) (k:Nat),0≤r→r+n=20→TInv u r tab→
  Zh HL (k+n+1) (Zt u,d,u.1,u.2.1,u.2.2.1,u.2.2.2,0,false,r,d&&allD R,R,tab) =
   some (0,false,(outL u n R tab r d).2.2.1,(outL u n R tab r d).2.2.2&&allD (outL u n R tab r d).1,(outL u n R tab r d).1,(outL u n R tab r d).2.1) ∧
  Zh HN (k+n+1) (Zt u,d,u.1,u.2.1,u.2.2.1,u.2.2.2,0,false,r,false,R,tab) =
   some ((outL u n R tab r d).2.2.2,0,false,(outL u n R tab r d).2.2.1,false,(outL u n R tab r d).1,(outL u n R tab r d).2.1) ∧
  TInv u 20 (outL u n R tab r d).2.1
 | 0,R,tab,r,d,k,h0,h1,v=>by
  have e:decide (r<20)=false:=dF0 (by omega)
  refine ⟨?_,?_,⟨v.k,by have:=v.n;show (tab.length:Int)≤_;omega⟩⟩
  ·simp only [Zh,HL,Zgw,e]
   cases d<;>rfl
  ·simp only [Zh,HN,Zgy,e]
   cases d<;>rfl
 | n+1,R,tab,r,true,k,h0,h1,v=>by
  refine ⟨?_,?_,⟨v.k,by have:=v.n;show (tab.length:Int)≤_;omega⟩⟩
  ·simp only [Zh,HL,Zgw,Bool.not_true,cond_false];rfl
  ·simp only [Zh,HN,Zgy,Bool.not_true,cond_false];rfl
 | n+1,R,tab,r,false,k,h0,h1,v=>by
  have e:decide (r<20)=true:=dT0 (by omega)
  have w:i64.wrap (r+1)=r+1:=ZdN (by omega) (by omega)
  have hst:(Zt u).length<9223372036854775807:=by have:=ZP2 u hu;omega
  obtain ⟨v',s1,s2,j1⟩:=ZXo hu h45 v h0 (by omega)
  have hn:=v.n
  have hn':=v'.n
  have hN:tab.length≤1000:=by omega
  have o1:=Z6e (s2:=Zt u) (b1:=0) (g8:=false) (x:=r+1) (y:=(false&&allD R)) (b3:=R) hu v.k hN
  have o2:=Z6i (s4:=Zt u) (b1:=0) (g8:=false) (x:=r+1) (y:=false) hu v.k hN h45
  have st:=Z1J hu v.k hN h45
  have tl:=ZBU u tab 0 u.2.2.2
  have ut:=hu.t
  have ar:=ZZ2 (thrR u tab 0 u.2.2.2) (by omega)
  have l1:=Zlz Zg (stoR [] (thrR u tab 0 u.2.2.2)) tab
  have jn:=ZYr tab (stoR [] (thrR u tab 0 u.2.2.2)) v.k.srt (by omega)
  have wd:=ZVC tab (addT Zg tab (stoR [] (thrR u tab 0 u.2.2.2))) (Zt u) hst v.k.srt (by omega)
  have ad:Zcp tab (stoR [] (thrR u tab 0 u.2.2.2))=some (addT Zg tab (stoR [] (thrR u tab 0 u.2.2.2))):=by rw [Zne _ _ (by omega),Zwy v.k.e s1.a]
  have wr:ZoZ tab (addT Zg tab (stoR [] (thrR u tab 0 u.2.2.2))) (Zt u)=some (addT (widF (Zt u)) tab (addT Zg tab (stoR [] (thrR u tab 0 u.2.2.2)))):=by
   rw [ZQL _ _ _ hst v.k.srt j1.srt (by omega),ZUc v.k j1]
  have ih:=ZXq hu h45 n (thrR u tab 0 u.2.2.2) (nxtT u tab (r+1)) (r+1) (decide (nxtT u tab (r+1)=tab)) k (by omega) (by omega) v'
  have sm:=ZYs (nxtT u tab (r+1)) tab (by omega)
  have sr:=Zxg (nxtT u tab (r+1)) tab (by omega)
  refine ⟨?_,?_,ih.2.2⟩
  ·refine Eq.trans ?_ ih.1
   rw [show k+(n+1)+1=(k+n+1)+1 by omega,Zh]
   simp only [HL,Zgw,e,w,Bool.not_false,cond_true,o1,Zb,Znw,st,ZvW,jn,Zs4,wd,Zp6,Zha,ar]
   unfold nxtT at sm ⊢
   by_cases q:r+1>3
   ·rw [if_pos q] at sm ⊢
    simp only [dT0 q,cond_true,sm,Zb]
    cases decide (addT (widF (Zt u)) tab (addT Zg tab (stoR [] (thrR u tab 0 u.2.2.2)))=tab)<;>rfl
   ·rw [if_neg q] at sm ⊢
    simp only [dF0 q,cond_false,sm,Zb]
    cases decide (addT Zg tab (stoR [] (thrR u tab 0 u.2.2.2))=tab)<;>rfl
  ·refine Eq.trans ?_ ih.2.1
   rw [show k+(n+1)+1=(k+n+1)+1 by omega,Zh]
   simp only [HN,Zgy,e,w,Bool.not_false,cond_true,o2,Zb,Kx,ad,ZoQ,wr,WI]
   unfold nxtT at sr ⊢
   by_cases q:r+1>3
   ·rw [if_pos q] at sr ⊢
    simp only [dT0 q,cond_true,sr,Zb]
   ·rw [if_neg q] at sr ⊢
    simp only [dF0 q,cond_false,sr,Zb]
theorem Z1S (tab:List En) (r:Int) (R:List Re) (hR:R.length≤1000) (d:Bool):Zhq (0,0,false,r,d,R,tab)=some (0,false,r,d&&allD R,R,tab):=by
 have go:∀ (q:List Re) (i:Nat) (s:Bool) (k:Nat),R.drop i=q→i+q.length=R.length→
   Zh ZbV (k+q.length+1) ((i:Int),0,false,r,s,R,tab)=some (0,false,r,s&&allD q,R,tab):=by
  intro q
  induction q with
  | nil=>
   intro i s k hd hi
   have e:decide ((i:Int)<(R.length:Int))=false:=dF0 (by simp at hi;omega)
   simp only [Zh,ZbV,Zme,e,cond_false]
   simp [allD]
  | cons c q ih=>
   intro i s k hd hi
   rw [List.length_cons] at hi ⊢
   have hc:R[i]? = some c:=by
    have:=congrArg (fun q=>q[0]?) hd
    simpa using this
   have e:decide ((i:Int)<(R.length:Int))=true:=dT0 (by omega)
   have e0:decide (0≤(i:Int))=true:=dT0 (by omega)
   have w:=Zq (i:=i) (n:=R.length) (by omega) (by omega)
   rw [show k+(q.length+1)+1=(k+q.length+1)+1 by omega,Zh]
   simp only [ZbV,Zme,e,e0,cond_true,tN0,hc,Zb,w]
   cases s
   ·exact ih (i+1) false k (by rw [← List.drop_drop,hd];rfl) (by omega)
   ·have:=ih (i+1) c.2.2.2.2.2 k (by rw [← List.drop_drop,hd];rfl) (by omega)
    rw [show (true&&allD (c::q))=(c.2.2.2.2.2&&allD q) from rfl]
    exact this
 unfold Zhq
 have:=go R 0 d (Zl - R.length - 1) rfl (by simp)
 rw [show Zl - R.length - 1+R.length+1=Zl by unfold Zl;omega] at this
 exact this
def outZ (u:U):List Re×List En×Int×Bool:=outL u 20 [] [] 0 false
def outVV (u:U):RRe:=((outZ u).1,(outZ u).2.1,(outZ u).2.2.1,(outZ u).2.2.2&&allD (outZ u).1)
theorem ZTh:∀ (n:Nat) (R:List Re) (tab:List En) (r:Int) (d:Bool),R.length≤u.2.2.2.length→(outL u n R tab r d).1.length≤u.2.2.2.length
 | 0,R,tab,r,d,h=>h
 | n+1,R,tab,r,true,h=>h
 | n+1,R,tab,r,false,h=>ZTh n _ _ _ _ (by rw [ZBU];exact Nat.le_refl _)
theorem Zxi (hu:unitOK u) (h45:sumC u.2.2.2≤45):Zfa u=some (outVV u)∧ZzK u=some (outVV u)∧TInv u 20 (outZ u).2.1:=by
 have q:=ZXq hu h45 20 [] [] 0 false 18446744073709551595 (by decide) (by decide) ⟨Za5,by simp⟩
 have hF:Zl=18446744073709551595+20+1:=rfl
 have ut:=hu.t
 have ol:=ZTh (u:=u) 20 [] [] 0 false (by simp)
 have rd:=Z1S (outZ u).2.1 (outZ u).2.2.1 (outZ u).1 (by show (outL u 20 [] [] 0 false).1.length≤_;omega) (outZ u).2.2.2
 refine ⟨?_,?_,q.2.2⟩
 ·unfold Zfa
  have q1:Zhi (Zt u,false,u.1,u.2.1,u.2.2.1,u.2.2.2,0,false,0,false,[],[])=some (0,false,(outZ u).2.2.1,(outZ u).2.2.2&&allD (outZ u).1,(outZ u).1,(outZ u).2.1):=by
   unfold Zhi
   rw [hF]
   exact q.1
  simp only [Zlv,ZKt u hu,Zb,q1]
  rfl
 ·unfold ZzK
  have q1:Zho (Zt u,false,u.1,u.2.1,u.2.2.1,u.2.2.2,0,false,0,false,[],[])=some ((outZ u).2.2.2,0,false,(outZ u).2.2.1,false,(outZ u).1,(outZ u).2.1):=by
   unfold Zho
   rw [hF]
   exact q.2.1
  simp only [Zjk,ZId u hu,Zb,q1,rd]
  rfl
end
end
def ZyF:List Sh:=[]
def ZBO:List Con:=[⟨18,Zg3,Zlq⟩]
def Vm:Option Bool:=Za (QS (([],[],0,[(0,[(14,0,0,0,0,0,0,0,0)])]),())) none fun d1=>bif d1.2.2.2 then bif d1.2.2.1==1 then bif (List.length d1.1:Int)==1 then some ((List.length d1.2.1:Int)==0) else some false else some false else some false
theorem ZMT:evGX (cxU ZBO [] 40 1048576) keeps 8 21 ZyF (.dat .bool) (():Unit)=Vm:=by kernel_rfl
def ZQ (x:Unit):Option Bool:=Vm
def ZhD:=conP true ZyF (.dat .bool) ZQ
theorem ZmD:Zf prog 21 ZhD:=Ze (calU ZBO [] 40 1048576 8 21) true (by rfl) (by rfl) (fun x r e=>(Zk _ _ _ _ _ _ _).trans ((ZMT ).trans e)) (.inl rfl)
def u16:U:=([],[],0,[(0,[(14,0,0,0,0,0,0,0,0)])])
theorem Z4B:unitOK u16∧sumC u16.2.2.2≤45:=by
 obtain ⟨b,h1,h2⟩:=ZzU u16 ⟨by decide,by decide,by decide,fun c hc=>by
  rw [List.mem_singleton.1 hc];decide⟩
 have h3:Zta u16 45=some false:=by kernel_rfl
 rw [h3] at h1
 exact h2 (Option.some.inj h1).symm
theorem ZsE:Vm=some true:=by
 have h:=(Zxi Z4B.1 Z4B.2).1
 unfold Vm
 show Za (Zfa u16) none _=_
 rw [h]
 kernel_rfl
theorem Z1V {u:U} {tab:List En} (hu:unitOK u) (hl:tabOK tab) (hn:tab.length≤1000) {i:Nat} {c:C} (hc:u.2.2.2[i]? = some c):Zqy (resV u (i:Int) tab (Zt u) c) (resV u (i:Int) tab (Zt u) c)=some true:=by
 have cl:=(hu.ts c (mG0 hc)).n
 obtain ⟨r1,r2,v,g⟩:=ZnL (t:=(i:Int)) hu (by omega) hl hn (by rw [tN0];exact hc)
 exact ZXE (resV u (i:Int) tab (Zt u) c) (fun x hx=>(fun _=>(v.ok x hx).sz hu)) (by have:=v.le;show (endV u (i:Int) tab (Zt u) c).1.length<_;omega) (by have:=g.a;show (gatE u (i:Int) tab (Zt u) c).1.length<_;omega) (by have:=g.b;show (gatE u (i:Int) tab (Zt u) c).2.1.length<_;omega) (by have:=g.c;show (gatE u (i:Int) tab (Zt u) c).2.2.length<_;omega)
section
open Go.Proofs
def gatS (u:U) (t:Int) (l:List En) (es:List E) (i:Nat) (s:Ga) (d:A):Ga:=gatN t i s (oV u t (i:Int) ((es[i]?).getD offE) l d)
section
variable {u:U} {t:Int} {l:List En} {c:C}
theorem ZW5 (hu:unitOK u) (ht:0≤t) (hl:tabOK l) (hn:l.length≤1000) (hc:u.2.2.2[t.toNat]? = some c) {es:List E} {ns:List Int} (v:Inv u t c.2.length es ns):∀ (r:List A) (i:Nat) (s:Ga),c.2.drop i=r→
  gatV u t l es i r s=ZK (gatS u t l es) i r s
 | [],i,s,hd=>rfl
 | d::r,i,s,hd=>by
  have e:c.2[i]? = some d:=by
   have:=congrArg (fun q=>q[0]?) hd
   simpa using this
  have hi:=(List.getElem?_eq_some_iff.1 e).1
  have hie:i<es.length:=by rw [v.le];exact hi
  have ge:es[i]? = some es[i]:=List.getElem?_eq_getElem hie
  have hV:gatV u t l es i (d::r) s=gatV u t l es (i+1) r (gatN t i s (outV u t i ((es[i]?).getD offE) l)):=rfl
  rw [hV,ZK]
  unfold gatS
  rw [ge,Option.getD_some,ZOr hu ht hl hn hc (v.ok _ (List.getElem_mem hie)).env e]
  exact ZW5 hu ht hl hn hc v r (i+1) _ (by rw [← List.drop_drop,hd];rfl)
end
end
section
open Go.Proofs
def nodeC (u:U) (t:Int) (l:List En) (st:List Int) (i:Nat) (s:St3) (d:A):St3:=
 let o:=oV u t i ((s.2.1[i]?).getD offE) l d
 let r:=comeV st i d.2.2.2.2.2.2.2.1 o.1 s.2.1 s.2.2
 let q:=comeV st i d.2.2.2.2.2.2.2.2 o.2.1 r.2.1 r.2.2
 (s.1||r.1||q.1,q.2.1,q.2.2)
def Z7E (u:U) (t:Int) (l:List En) (st:List Int) (c:C) (es:List E) (ns:List Int):St3:=ZK (nodeC u t l st) 0 c.2 (false,es,ns)
def runC (u:U) (t:Int) (l:List En) (st:List Int) (c:C):Nat→List E→List Int→Int→Bool→List E×List Int×Int×Bool
 | 0,es,ns,r,d=>(es,ns,r,d)
 | n+1,es,ns,r,d=>bif d then (es,ns,r,d) else (fun z:St3=>runC u t l st c n z.2.1 z.2.2 (r+1) (!z.1)) (Z7E u t l st c es ns)
def gatC (u:U) (t:Int) (l:List En) (c:C) (es:List E):Ga:=ZK (gatS u t l es) 0 c.2 ([],[],[])
def resC (u:U) (t:Int) (l:List En) (c:C):Re:=
 (fun z:List E×List Int×Int×Bool=>(fun g:Ga=>(z.1,g.1,g.2.1,g.2.2,z.2.2.1,z.2.2.2)) (gatC u t l c z.1)) (runC u t l (Zt u) c 100 (es0 u c) (ns0 c) 0 false)
section
variable {u:U} {t:Int} {l:List En} {c:C} {st:List Int}
theorem Z8v (hu:unitOK u) (ht:0≤t) (hl:tabOK l) (hn:l.length≤1000) (hc:u.2.2.2[t.toNat]? = some c) {s:St3} (v:Inv u t c.2.length s.2.1 s.2.2) {i:Nat} {d:A} (hd:c.2[i]? = some d):nodeV u t l st i s d=nodeC u t l st i s d:=by
 have hi:=(List.getElem?_eq_some_iff.1 hd).1
 have hie:i<s.2.1.length:=by rw [v.le];exact hi
 have ge:s.2.1[i]? = some s.2.1[i]:=List.getElem?_eq_getElem hie
 unfold nodeV nodeC
 simp only [ge,Option.getD_some,ZOr hu ht hl hn hc (v.ok _ (List.getElem_mem hie)).env hd]
theorem Z8c (hu:unitOK u) (ht:0≤t) (hl:tabOK l) (hn:l.length≤1000) (hc:u.2.2.2[t.toNat]? = some c):∀ (r:List A) (i:Nat) (s:St3),c.2.drop i=r→Inv u t c.2.length s.2.1 s.2.2→
  ZK (fun i s d=>nodeV u t l st i s d) i r s=ZK (nodeC u t l st) i r s
 | [],i,s,_,v=>rfl
 | d::r,i,s,hd,v=>by
  have e:c.2[i]? = some d:=by
   have:=congrArg (fun q=>q[0]?) hd
   simpa using this
  obtain ⟨n1,_,_⟩:=Z1K (st:=st) hu ht hl hn hc v e
  have k:=Z8v (st:=st) hu ht hl hn hc v e
  rw [ZK,ZK,k]
  rw [k] at n1
  exact Z8c hu ht hl hn hc r (i+1) _ (by rw [← List.drop_drop,hd];rfl) n1
theorem Z8q (hu:unitOK u) (ht:0≤t) (hl:tabOK l) (hn:l.length≤1000) (hc:u.2.2.2[t.toNat]? = some c):∀ (n:Nat) (es:List E) (ns:List Int) (r:Int) (d:Bool),Inv u t c.2.length es ns→runV u t l st c n es ns r d=runC u t l st c n es ns r d
 | 0,es,ns,r,d,v=>rfl
 | n+1,es,ns,r,true,v=>rfl
 | n+1,es,ns,r,false,v=>by
  have k:Z5 u t l st c es ns=Z7E u t l st c es ns:=Z8c hu ht hl hn hc c.2 0 (false,es,ns) rfl v
  obtain ⟨h1,_,_⟩:=ZPT (st:=st) hu ht hl hn hc c.2 0 (false,es,ns) rfl v
  have h1:Inv u t c.2.length (Z5 u t l st c es ns).2.1 (Z5 u t l st c es ns).2.2:=h1
  rw [k] at h1
  show runV u t l st c n (Z5 u t l st c es ns).2.1 (Z5 u t l st c es ns).2.2 (r+1) (!(Z5 u t l st c es ns).1)=runC u t l st c n (Z7E u t l st c es ns).2.1 (Z7E u t l st c es ns).2.2 (r+1) (!(Z7E u t l st c es ns).1)
  rw [k]
  exact Z8q hu ht hl hn hc n _ _ (r+1) _ h1
theorem Z77 (hu:unitOK u) (ht:0≤t) (hl:tabOK l) (hn:l.length≤1000) (hc:u.2.2.2[t.toNat]? = some c):resV u t l (Zt u) c=resC u t l c:=by
 obtain ⟨_,_,v,g⟩:=ZnL hu ht hl hn hc
 have e:endV u t l (Zt u) c=runC u t l (Zt u) c 100 (es0 u c) (ns0 c) 0 false:=Z8q hu ht hl hn hc 100 (es0 u c) (ns0 c) 0 false (ZSN hu hc)
 have e2:gatE u t l (Zt u) c=gatC u t l c (endV u t l (Zt u) c).1:=ZW5 hu ht hl hn hc v c.2 0 ([],[],[]) rfl
 unfold resV
 rw [e2,e]
 rfl
end
end
section
section
variable [RT]
def Z9Q:List AV→Nat→Option Nat
 | [],_=>none
 | .row _::_,i=>some i
 | _::r,i=>Z9Q r (i+1)
def Z9L (k:Nat):List AV→Nat→Option Nat
 | [],_=>none
 | .row n::r,i=>bif Nat.beq n k then some i else Z9L k r (i+1)
 | _::r,i=>Z9L k r (i+1)
def boxOf (k:Nat):List (Nat×Blk)→Option (Nat×Nat)
 | []=>none
 | (b,.box cs)::r=>match Z9L k cs 0 with
  | some j=>some (b,j)
  | none=>boxOf k r
 | _::r=>boxOf k r
def frzG:List AV→Hp→Option (List AV×Hp)
 | [.agg cs],h=>match Z9Q cs 0 with
  | some j=>match cs[j]? with
   | some (.row k)=>match boxOf k h.blks with
    | some (b,i)=>match Zr h.blks b with
     | some (.box bs)=>match bs[i]? with
      | some (.row k2)=>bif Nat.beq k2 k then match Zr h.blks k with
        | some (.row e l)=>some ([.agg (cs.set j (.sl e l))],⟨setB (delB h.blks k) b (.box (bs.set i (.sl e l))),h.c⟩)
        | _=>none
       else none
      | _=>none
     | _=>none
    | none=>none
   | _=>none
  | none=>none
 | _,_=>none
def conF (q:List AV→Prog AV) (args:List AV):Prog AV:=.glob (frzG args) fun args'=>q args'
variable {P:Program}
theorem Z9V {args args':List AV} {h h1:Hp} (e:frzG args h=some (args',h1)):∃ cs j k b i bs ty l,args=[.agg cs]∧cs[j]? = some (.row k)∧Zr h.blks b=some (.box bs)∧bs[i]? = some (.row k)∧Zr h.blks k=some (.row ty l) ∧
  args'=[.agg (cs.set j (.sl ty l))]∧h1=⟨setB (delB h.blks k) b (.box (bs.set i (.sl ty l))),h.c⟩:=by
 unfold frzG at e
 split at e
 case h_2=>cases e
 rename_i cs
 split at e
 case h_2=>cases e
 rename_i j hj
 split at e
 case h_2=>cases e
 rename_i k hk
 split at e
 case h_2=>cases e
 rename_i b i hb
 split at e
 case h_2=>cases e
 rename_i bs hf
 split at e
 case h_2=>cases e
 rename_i k2 hk2
 cases hkk:Nat.beq k2 k with
 | false=>rw [hkk] at e;cases e
 | true=>
  rw [hkk,cond_true] at e
  have:=Nat.eq_of_beq_eq_true hkk
  subst this
  split at e
  case h_2=>cases e
  rename_i ty l hx
  cases e
  exact ⟨cs,j,k2,b,i,bs,ty,l,rfl,hk,hf,hk2,hx,rfl,rfl⟩
theorem Z9T {g:FuncId} {q:List AV→Prog AV} (hq:Zf P g q):Zf P g (conF q):=by
 intro tr args h ft v h' ft' vals hdr S w ok e hr hm hv hi hO
 unfold conF ex at e
 cases tr with
 | true=>simp [run] at e
 | false=>
  simp only [run,cond_false] at e
  cases hg:frzG args h with
  | none=>rw [hg] at e;cases e
  | some z=>
   obtain ⟨args',h1⟩:=z
   rw [hg] at e
   simp only [Option.bind_some] at e
   obtain ⟨cs,j,k,b,i,bs,ty,l,rfl,hk,hf,hk2,hx,rfl,rfl⟩:=Z9V hg
   have hne:b≠k:=fun q=>by rw [q,hx] at hf;cases hf
   obtain ⟨S',p,hd⟩:=ZBn (tr:=false) hr hm hx
   have hb:=hr.blk b _ hf
   cases hb with | box _ bl vs et hh hw hrp=>
   have hf2:Zr (delB h.blks k) b=some (.box bs):=by rw [Zco,if_neg hne];exact hf
   have hr2:VReps hdr S' (bs.set i (.sl ty l)) vs:=ZTp i (hrp.mono p.step.sle fun _ _=>rfl) fun v hv=>by
    obtain ⟨v',hv',hrep⟩:=hrp.get i _ hk2
    rw [hv] at hv';cases hv'
    cases hrep with | row _ ao len cap hh2=>
    rw [hh2] at hd
    exact .sl ty l _ hd
   have p2:=Zph (tr:=false) p.real p.ment b (.box (bs.set i (.sl ty l))) _ hf2 (fun n hn=>.inl ((hm b _ hf).2 n (ZPu rfl bs i n hn))) w bl (by rw [hh];rfl) rfl rfl rfl rfl (fun _ _=>rfl) (.box _ bl vs et hh hw hr2)
   have p3:=p.trans p2
   have hv2:VReps hdr S' [.agg (cs.set j (.sl ty l))] vals:=by
    cases hv with | cons _ u _ us hu hus=>
    cases hus
    cases hu with | agg _ us hus=>
    refine .cons _ _ _ _ (.agg _ us (ZTp j (hus.mono p.step.sle fun _ _=>rfl) fun v hv=>?_)) .nil
    obtain ⟨v',hv',hrep⟩:=hus.get j _ hk
    rw [hv] at hv';cases hv'
    cases hrep with | row _ ao len cap hh2=>
    rw [hh2] at hd
    exact .sl ty l _ hd
   have hok:∀ n,okn ok h.c h.c n→ok n:=fun n q=>q.elim id fun q=>absurd q (by omega)
   obtain ⟨c1,c2⟩:=hq false _ _ ft v h' ft' vals hdr S' w (okn ok h.c h.c) e p3.real p3.ment hv2 (fun n hn=>.inl (hi n (by
    simp only [AV.idsL,AV.ids,List.append_nil] at hn ⊢
    exact ZPu rfl cs j n hn))) (fun n q=>hO n (hok n q))
   exact ⟨c1,c2.mono fun e w' ⟨u,hdr',S2,a1,a2,a3,a4⟩=>⟨u,hdr',S2,a1,p3.trans a2,a3,fun n hn=>(a4 n hn).imp (hok n) id⟩⟩
end
end
def Z9E:List AV→Prog AV:=conF Zg3
theorem Z9K:Zf prog 18 Z9E:=Z9T Zlq
def Z9F:List Sh:=[.dat tU,.dat (.int .i64)]
def Z9H:List Con:=[⟨38,Zuy,ZE5⟩,⟨18,Z9E,Z9K⟩,⟨25,ZuA,ZE7⟩,⟨23,Zso,ZBJ⟩,⟨21,ZhD,ZmD⟩]
def Z9B (a0:U) (a1:Int):Option Bool:=Za (Zlx (a0,45,())) none fun d3=>bif d3 then some true else bif decide (a1<0) then some true else bif decide (a1≥(List.length a0.2.2.2:Int)) then some true else bif decide (0≤a1) then Za a0.2.2.2[a1.toNat]? none fun d4=>Za (QS ((a0.1,a0.2.1,a0.2.2.1,[d4]),())) none fun d5=>bif (List.length d5.1:Int)==1 then Za d5.1[Int.toNat (0:Int)]? none fun d6=>Za (Zid ((a0.1,a0.2.1,a0.2.2.1,[d4]),0,[],())) none fun d7=>Za (Zfp (d6,d7,())) none fun d8=>bif d8 then Za (ZQ ()) none fun d9=>some d9 else some false else some false else none
def Z9C (x:U×(Int×Unit)):Option Bool:=Z9B x.1 x.2.1
def Z9G:=conP true Z9F (.dat .bool) Z9C
theorem Z9U:Zf prog 15 Z9G:=Ze (calU Z9H [] 40 1048576 8 15) true (by rfl) (by rfl) (fun x r e=>(Zk _ _ _ _ _ _ _).trans ((show _=Z9C x by kernel_rfl).trans e)) (.inl rfl)
section
open Go.Proofs
def isOf (t:Int) (l:List En):Prop:=∀ e∈l,e.1=t
section
variable {u:U} {t:Int} {l:List En} {c:C} {st:List Int}
theorem Z9P {f:I→I→I} {e:En} (he:e.1=t):∀ {l:List En},isOf t l→isOf t (pinT f e l)
 | [],_=>fun x hx=>by rw [List.mem_singleton.1 hx];exact he
 | d::r,h=>by
  have hd:=h d (by simp)
  have hr:isOf t r:=fun x hx=>h x (.tail _ hx)
  unfold pinT
  split
  ·intro x hx
   rcases List.mem_cons.1 hx with rfl | hx
   ·exact hd
   ·exact Z9P he hr x hx
  ·split
   ·intro x hx
    rcases List.mem_cons.1 hx with rfl | hx
    ·exact hd
    ·exact hr x hx
   ·intro x hx
    rcases List.mem_cons.1 hx with rfl | hx
    ·exact he
    ·exact h x hx
theorem Z96 {f:I→I→I} {e:En} (he:e.1=t) (h:isOf t l):isOf t (stpT f l e):=by
 unfold stpT
 cases Zd (vl e)
 ·exact Z9P he h
 ·exact h
theorem Z9D {f:I→I→I}:∀ {es l:List En},isOf t l→isOf t es→isOf t (addT f l es)
 | [],l,h,_=>h
 | e::r,l,h,k=>by
  show isOf t (addT f (stpT f l e) r)
  exact Z9D (Z96 (k e (by simp)) h) fun x hx=>k x (.tail _ hx)
theorem Z9I {p:En→Bool}:∀ (l:List En) (v:I),(∀ e∈l,p e=false)→seenS p v l=v
 | [],v,_=>rfl
 | e::r,v,h=>by
  show seenS p (if p e then Zg v e.2.2.2.2 else v) r=v
  rw [h e (by simp)]
  exact Z9I r v fun x hx=>h x (.tail _ hx)
theorem Z9R (h:isOf t l) {ar:Bool} {g x:Int}:∀ e∈l,seesB t ar g x e=false:=fun e he=>by
 unfold seesB
 rw [h e he]
 simp
theorem Z91 (h:isOf t l) (d:I) (ar:Bool) (g x:Int):readV d l t ar g x=readV d [] t ar g x:=by
 show rJoin d (seenS _ nn l)=rJoin d nn
 rw [Z9I l nn (Z9R h)]
theorem Z9Y (h:isOf t l) (ar:Bool) (x m:Int) (r:List I):gmap l t ar x m r=gmap [] t ar x m r:=by
 unfold gmap
 congr 1
 funext i d
 show rJoin d (seenS _ nn l)=rJoin d nn
 rw [Z9I l nn fun e he=>by rw [Z9R h e he];rfl]
theorem Z9W (h:isOf t l) (n:Int) (e:E) (a:A):oV u t n e l a=oV u t n e [] a:=by
 obtain ⟨k,T,X,Y,G,N,op,nx,el⟩:=a
 unfold oV
 simp only [Z91 h,Z9Y h]
def ownO (t:Int) (o:O):Prop:=isOf t o.2.2.2.1
theorem Z9z {b:Bool} {x y:O} (hx:ownO t x) (hy:ownO t y):ownO t (bif b then x else y):=by
 cases b
 ·exact hy
 ·exact hx
theorem Z9A {a b:E} {x:List Int} {y:List Ac}:ownO t (a,b,x,[],y):=fun _ h=>nomatch h
theorem Z9O {a b:E} {x:List Int} {y:List Ac} {z:Bool×Int×Int×I}:ownO t (a,b,x,[(t,z)],y):=fun _ h=>by rw [List.mem_singleton.1 h]
theorem Qaa (n:Int) (e:E) (a:A):ownO t (oV u t n e l a):=by
 obtain ⟨k,T,X,Y,G,N,op,nx,el⟩:=a
 unfold oV
 dsimp only
 exact Z9z Z9A (Z9z Z9A (Z9z Z9A (Z9z Z9A (Z9z Z9A (Z9z Z9A (Z9z Z9O (Z9z Z9A (Z9z Z9O (Z9z Z9A (Z9z Z9A (Z9z Z9A (Z9z Z9A (Z9z Z9A Z9A)))))))))))))
theorem Z90 (h:isOf t l):nodeC u t l st=nodeC u t [] st:=by
 funext i s d
 simp only [nodeC,Z9W h]
theorem Z93 {es:List E} {ns:List Int} {r:Int} {d:Bool}:runC u t l st c 0 es ns r d=(es,ns,r,d):=rfl
theorem Z95 {n:Nat} {es:List E} {ns:List Int} {r:Int}:runC u t l st c (n+1) es ns r true=(es,ns,r,true):=rfl
theorem Z94 {n:Nat} {es:List E} {ns:List Int} {r:Int}:runC u t l st c (n+1) es ns r false=runC u t l st c n (Z7E u t l st c es ns).2.1 (Z7E u t l st c es ns).2.2 (r+1) (!(Z7E u t l st c es ns).1):=rfl
theorem Z9M (h:isOf t l):∀ (n:Nat) (es:List E) (ns:List Int) (r:Int) (d:Bool),runC u t l st c n es ns r d=runC u t [] st c n es ns r d
 | 0,_,_,_,_=>by rw [Z93,Z93]
 | n+1,es,ns,r,true=>by rw [Z95,Z95]
 | n+1,es,ns,r,false=>by
  have e:Z7E u t l st c es ns=Z7E u t [] st c es ns:=by unfold Z7E;rw [Z90 h]
  rw [Z94,Z94,e]
  exact Z9M h n _ _ _ _
theorem Z9Z (h:isOf t l) (es:List E):gatC u t l c es=gatC u t [] c es:=by
 have e:gatS u t l es=gatS u t [] es:=by
  funext i s d
  simp only [gatS,Z9W h]
 unfold gatC
 rw [e]
theorem Z92 (h:isOf t l):resC u t l c=resC u t [] c:=by
 unfold resC
 rw [Z9M h]
 dsimp only
 rw [Z9Z h]
theorem Z9N (es:List E):∀ (r:List A) (i:Nat) (s:Ga),isOf t s.1→isOf t (ZK (gatS u t l es) i r s).1
 | [],_,_,h=>h
 | d::r,i,s,h=>by
  rw [ZK]
  exact Z9N es r (i+1) _ (Z9D h (Qaa _ _ _))
theorem Z97:isOf t (resC u t l c).2.1:=Z9N _ c.2 0 ([],[],[]) fun _ h=>nomatch h
end
section
variable {v:U} {c:C}
theorem Z9X (hu:unitOK v) (hc:v.2.2.2=[c]) {tab:List En} (hk:tabOK tab) (hn:tab.length≤1000) (ho:isOf 0 tab):resV v 0 tab (Zt v) c=resV v 0 [] (Zt v) c∧isOf 0 (resV v 0 tab (Zt v) c).2.1:=by
 have g:v.2.2.2[(0:Int).toNat]? = some c:=by rw [hc];rfl
 have e:=Z77 hu (by decide) hk hn g
 have e0:=Z77 hu (by decide) Za5 (by decide) g
 refine ⟨by rw [e,e0];exact Z92 ho,?_⟩
 rw [e];exact Z97
theorem Z9J (hu:unitOK v) (h45:sumC v.2.2.2≤45) (hc:v.2.2.2=[c]):∀ (n:Nat) (R:List Re) (tab:List En) (r:Int) (d:Bool),0≤r→r+n=20→TInv v r tab→isOf 0 tab→(R=[resV v 0 [] (Zt v) c]∨(d=false∧1≤n))→
  (outL v n R tab r d).1=[resV v 0 [] (Zt v) c]
 | 0,R,tab,r,d,h0,h1,k,ho,h=>by
  rcases h with h | h
  ·exact h
  ·omega
 | n+1,R,tab,r,true,h0,h1,k,ho,h=>by
  rcases h with h | h
  ·exact h
  ·cases h.1
 | n+1,R,tab,r,false,h0,h1,k,ho,h=>by
  obtain ⟨k',_⟩:=ZXo hu h45 k h0 (by omega)
  have kn:=k.n
  obtain ⟨a1,a2⟩:=Z9X hu hc k.k (by omega) ho
  have th:thrR v tab 0 v.2.2.2=[resV v 0 tab (Zt v) c]:=by rw [hc];rfl
  have so:isOf 0 (stoR [] (thrR v tab 0 v.2.2.2)):=by
   rw [th]
   exact Z9D (fun _ h=>nomatch h) a2
  refine Z9J hu h45 hc n _ _ (r+1) _ (by omega) (by omega) k' ?_ (.inl ?_)
  ·unfold nxtT
   split
   ·exact Z9D ho (Z9D ho so)
   ·exact Z9D ho so
  ·rw [th,a1]
end
theorem Z99 {u:U} {c:C} (hu:unitOK u) (hc:c∈u.2.2.2):unitOK (u.1,u.2.1,u.2.2.1,[c]):=
 ⟨hu.g,hu.a,hu.m,by simp,hu.gs,hu.ars,fun x hx=>by
  rw [List.mem_singleton.1 hx]
  have k:=hu.ts c hc
  exact ⟨k.v,k.n,k.e,fun a ha=>⟨(k.a a ha).k1,(k.a a ha).k2,(k.a a ha).n,(k.a a ha).n0,(k.a a ha).nx,(k.a a ha).el,(k.a a ha).el0,(k.a a ha).op4,(k.a a ha).op11,(k.a a ha).op0,(k.a a ha).h1,(k.a a ha).h2,(k.a a ha).h3,(k.a a ha).h4⟩⟩⟩
theorem Z9S {c:C}:∀ {r:List C},c∈r→sumC [c]≤sumC r
 | d::r,h=>by
  rw [Zzj,Zzj]
  rcases List.mem_cons.1 h with rfl | h
  ·simp [sumC]
  ·have:=Z9S h
   rw [Zzj] at this
   omega
theorem Qab (u:U) (t:Int) (hs:sizeU u):Z9B u t=some true:=by
 unfold Z9B
 obtain ⟨b,h1,h2⟩:=ZzU u hs
 simp only [Zlx,h1,Zb]
 cases b
 case true=>rfl
 obtain ⟨hu,h45⟩:=h2 rfl
 simp only [cond_false]
 by_cases t1:t<0
 ·rw [dT0 t1];rfl
 by_cases t2:t≥(u.2.2.2.length:Int)
 ·rw [dF0 t1,dT0 t2];rfl
 rw [dF0 t1,dF0 t2,dT0 (show 0≤t by omega)]
 simp only [cond_false,cond_true]
 have ht:t.toNat<u.2.2.2.length:=by omega
 rw [List.getElem?_eq_getElem ht,Zb]
 have hm:=List.getElem_mem ht
 generalize u.2.2.2[t.toNat]=c at hm ⊢
 have hv:=Z99 hu hm
 have v45:sumC [c]≤45:=by have:=Z9S hm;omega
 obtain ⟨o1,_,_⟩:=Zxi hv v45
 have oz:(outZ (u.1,u.2.1,u.2.2.1,[c])).1=[resV (u.1,u.2.1,u.2.2.1,[c]) 0 [] (Zt (u.1,u.2.1,u.2.2.1,[c])) c]:=
  Z9J hv v45 rfl 20 [] [] 0 false (by decide) (by decide) ⟨Za5,by simp⟩ (fun _ h=>nomatch h) (.inr ⟨rfl,by decide⟩)
 obtain ⟨_,r2,_,_⟩:=ZnL (t:=0) (l:=[]) (c:=c) hv (by decide) Za5 (by decide) rfl
 have sm:=Z1V (i:=0) (c:=c) hv Za5 (by decide) rfl
 have sm:Zqy (resV (u.1,u.2.1,u.2.2.1,[c]) 0 [] (Zt (u.1,u.2.1,u.2.2.1,[c])) c) (resV (u.1,u.2.1,u.2.2.1,[c]) 0 [] (Zt (u.1,u.2.1,u.2.2.1,[c])) c)=some true:=sm
 simp only [QS,o1,Zb]
 unfold outVV
 simp only [oz]
 show (bif (1:Int)==1 then Za (some (resV (u.1,u.2.1,u.2.2.1,[c]) 0 [] (Zt (u.1,u.2.1,u.2.2.1,[c])) c)) none _ else _)=_
 simp only [Zb,Zid,r2,Zfp,sm,cond_true,ZQ,ZsE]
 rfl
end
end
end Go.Proofs.YtbdcblpjemmipaaGreat.Ex
