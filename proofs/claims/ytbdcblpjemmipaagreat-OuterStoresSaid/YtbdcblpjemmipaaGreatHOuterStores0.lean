/- A part of the proofs of what is known of threads: HOuterStores0. -/
import Derived.Test.YtbdcblpjemmipaaGreatHA
import Derived.Test.YtbdcblpjemmipaaGreatHC
import Derived.Test.YtbdcblpjemmipaaGreatHF
import Derived.Test.YtbdcblpjemmipaaGreatHE
import Derived.Test.YtbdcblpjemmipaaGreatHG
import Derived.Test.YtbdcblpjemmipaaGreatHH
import Derived.Test.YtbdcblpjemmipaaGreatHI
namespace Go.Proofs.YtbdcblpjemmipaaGreat.Ex
open Go.Proofs
set_option maxRecDepth 100000
set_option maxHeartbeats 4000000
set_option linter.unusedVariables false
set_option linter.unusedSimpArgs false
set_option linter.unusedSectionVars false
noncomputable section
open Tryz (prog)
open IntKind (i64)
section
theorem ZHI (x y:I):leqB x (Zg x y)=true:=by
 simp only [leqB,Zg,Zd,nn,mn,mx,Bool.or_eq_true,Bool.and_eq_true,decide_eq_true_eq]
 (repeat' split)<;>simp_all<;>(try (repeat' split))<;>omega
theorem KH {x y z:I} (h:leqB x y=true) (k:leqB y z=true):leqB x z=true:=by
 rw [QE] at *;unfold sub at *;omega
theorem ZXa (x y:I):leqB y (Zg x y)=true:=by rw [Zfb];exact ZHI y x
end
abbrev tRR:Ty:=(.st (.pair (.sl tR) (.pair (.sl tEn) (.pair (.int .i64) .bool))))
abbrev RRe:=List Re×List En×Int×Bool
def ZQz:List Sh:=[.dat (.int .i64)]
def Zg4:=conP true ZQz (.dat .bool) Zo
theorem Zlr:Zf prog 31 Zg4:=Ze (calU [] [] 40 1048576 8 31) true (by rfl) (by rfl) (fun x r e=>(Zk _ _ _ _ _ _ _).trans ((show _=Zo x by kernel_rfl).trans e)) (.inl rfl)
def ZEH:List Sh:=[]
def ZKn:Option I:=some (1,0)
theorem ZQM:evGX (cxU [] [] 40 1048576) keeps 8 95 ZEH (.dat tI) (():Unit)=ZKn:=by kernel_rfl
def ZUy (x:Unit):Option I:=ZKn
def Vk:=conP true ZEH (.dat tI) ZUy
theorem Za3:Zf prog 95 Vk:=Ze (calU [] [] 40 1048576 8 95) true (by rfl) (by rfl) (fun x r e=>(Zk _ _ _ _ _ _ _).trans ((ZQM ).trans e)) (.inl rfl)
def ZNX:List Sh:=[.dat (.int .i64),.dat (.int .i64)]
def ZG3 (x:Int×(Int×Unit)):Option Bool:=Zqz x.1 x.2.1
def ZAw:=conP true ZNX (.dat .bool) ZG3
theorem ZOO:Zf prog 166 ZAw:=Ze (calU [] [] 40 1048576 8 166) true (by rfl) (by rfl) (fun x r e=>(Zk _ _ _ _ _ _ _).trans ((show _=ZG3 x by kernel_rfl).trans e)) (.inl rfl)
def ZNO:List Sh:=[.dat (.sl tEn),.dat (.int .i64),.dat .bool,.dat (.int .i64),.dat (.int .i64)]
def ZrJ:Nat→List Nat:=fun c=>bif c.beq 0 then [0,1,2,3,4,10,11,12] else [10,11]
def ZFh:List Con:=[⟨95,Vk,Za3⟩,⟨166,ZAw,ZOO⟩,⟨19,Kn,YD⟩]
def ZeS:StS:=⟨[(0,.sl tEn),(1,.int .i64),(2,.bool),(3,.int .i64),(4,.int .i64),(10,.ptr 0 0),(11,.ptr 1 0),(12,.int .i64)],[(0,.box [.int .i64,.int .i64]),(1,.box [.int .i64,.int .i64])],2⟩
def Vb:StS:=⟨[(10,.ptr 0 0),(11,.ptr 1 0)],[(0,.box [.int .i64,.int .i64]),(1,.box [.int .i64,.int .i64])],2⟩
def ZAI:StD ZeS→YR:=fun ((a,b,c,d,e,_,_,f,_),((g,h,_),(i,j,_),_))=>(a,b,c,d,e,f,g,h,i,j)
def ZB9:YR→StD ZeS:=fun (a,b,c,d,e,f,g,h,i,j)=>((a,b,c,d,e,(),(),f,()),((g,h,()),(i,j,()),()))
def ZUr:StD Vb→Q1:=fun ((_,_,_),((a,b,_),(c,d,_),_))=>(a,b,c,d)
def ZgS:Q1→StD Vb:=fun (a,b,c,d)=>(((),(),()),((a,b,()),(c,d,()),()))
def Zt8:Nat→Tm→Prog (Nat×Tm):=(varP 0 (fun T h=>(rdS ZeS T h).map ZAI) WL (altE 2 Vb ZgS) (fun _ _=>.fail))
def ZF1:Lpc:=⟨117,0,52,(fun base T=>.norm base (ZrJ 0) T (Zt8 base)),by kernel_rfl,by kernel_rfl,(loopU ZFh [] 40 1048576 8 (keep:=ZrJ) (q:=Zt8) (by kernel_rfl) (Zv (s:=ZeS) (un:=ZB9) (by rfl) (fun _=>rfl) (Zn (s:=Vb) (un:=ZgS) (flat:=ZUr) (by rfl) (fun _=>rfl)) (step:=ZpP) (fun _=>by kernel_rfl) (fun _ _ e=>⟨_,e⟩) (Zm 2 Vb ZgS) (ZB.fail _ _)))⟩
def Zsn:=conP true ZNO (.dat tI) Zji
theorem ZBI:Zf prog 117 Zsn:=Ze (calU ZFh [ZF1] 40 1048576 8 117) true (by rfl) (by rfl) (fun x r e=>(Zk _ _ _ _ _ _ _).trans ((show _=Zji x by kernel_rfl).trans e)) (.inl rfl)
def ZRZ:List Sh:=[.dat (.int .i64),.dat (.int .i64)]
def Zqg:=conP true ZRZ (.dat .bool) YE
theorem ZxR:Zf prog 119 Zqg:=Ze (calU [] [] 40 1048576 8 119) true (by rfl) (by rfl) (fun x r e=>(Zk _ _ _ _ _ _ _).trans ((show _=YE x by kernel_rfl).trans e)) (.inl rfl)
def ZK3:List Sh:=[.dat (.sl tEn),.dat (.int .i64),.dat .bool,.dat (.int .i64),.dat (.int .i64),.dat (.int .i64)]
def Zjy:Nat→List Nat:=fun c=>bif c.beq 0 then [0,1,2,3,4,5,12,13,14] else [1,2,3,4,12,13]
def Zze:List Con:=[⟨119,Zqg,ZxR⟩,⟨117,Zsn,ZBI⟩]
def Zct:StS:=⟨[(0,.sl tEn),(1,.int .i64),(2,.bool),(3,.int .i64),(4,.int .i64),(5,.int .i64),(12,.ptr 0 0),(13,.row 1),(14,.int .i64)],[(0,.box [.int .i64,.int .i64]),(1,.row tEn)],2⟩
def Yw:StS:=⟨[(1,.int .i64),(2,.bool),(3,.int .i64),(4,.int .i64),(12,.ptr 0 0),(13,.row 1)],[(0,.box [.int .i64,.int .i64]),(1,.row tEn)],2⟩
def Zyi:StD Zct→KD:=fun ((a,b,c,d,e,f,_,_,g,_),((h,i,_),j,_))=>(a,b,c,d,e,f,g,h,i,j)
def Zyx:KD→StD Zct:=fun (a,b,c,d,e,f,g,h,i,j)=>((a,b,c,d,e,f,(),(),g,()),((h,i,()),j,()))
def ZRk:StD Yw→Qw:=fun ((a,b,c,d,_,_,_),((e,f,_),g,_))=>(a,b,c,d,e,f,g)
def Ze3:Qw→StD Yw:=fun (a,b,c,d,e,f,g)=>((a,b,c,d,(),(),()),((e,f,()),g,()))
def ZqQ:Nat→Tm→Prog (Nat×Tm):=(varP 0 (fun T h=>(rdS Zct T h).map Zyi) HP (altE 2 Yw Ze3) (fun _ _=>.fail))
def ZAX:Lpc:=⟨120,0,41,(ownP [] [(13,tEn)] (Zjy 0) (fun base T=>.norm base (Zjy 0) T (ZqQ base))),by kernel_rfl,by kernel_rfl,(Ja (loopU Zze [] 40 1048576 8 (keep:=Zjy) (q:=ZqQ) (by kernel_rfl) (Zv (s:=Zct) (un:=Zyx) (by rfl) (fun _=>rfl) (Zn (s:=Yw) (un:=Ze3) (flat:=ZRk) (by rfl) (fun _=>rfl)) (step:=Zn0) (fun _=>by kernel_rfl) (fun _ _ e=>⟨_,e⟩) (Zm 2 Yw Ze3) (ZB.fail _ _))))⟩
def ZwK:=conP true ZK3 (.dat tI) Kz
theorem ZLO:Zf prog 120 ZwK:=Ze (calU Zze [ZAX] 40 1048576 8 120) true (by rfl) (by rfl) (fun x r e=>(Zk _ _ _ _ _ _ _).trans ((show _=Kz x by kernel_rfl).trans e)) (.inl rfl)
def ZUK:List Sh:=[.dat (.int .i64),.dat (.int .i64)]
def Zs7:=conP true ZUK (.dat .bool) Zi
theorem Zz7:Zf prog 100 Zs7:=Ze (calU [] [] 40 1048576 8 100) true (by rfl) (by rfl) (fun x r e=>(Zk _ _ _ _ _ _ _).trans ((show _=Zi x by kernel_rfl).trans e)) (.inl rfl)
def ZQF:List Sh:=[.dat (.int .i64),.dat (.int .i64)]
def ZtV:Nat→List Nat:=fun c=>bif c.beq 0 then [5,6,7] else [4]
def Zgv:StS:=⟨[(5,.str),(6,.int .u8),(7,.int .i64)],[],0⟩
def Wz:StS:=⟨[(4,.undef)],[],0⟩
def WA:StS:=⟨[(4,.bool)],[],0⟩
def ZCS:StD Zgv→Zbz:=fun ((a,b,c,_),_)=>(a,b,c)
def ZEC:Zbz→StD Zgv:=fun (a,b,c)=>((a,b,c,()),())
def ZVn (d:StD Wz):ZdA:=()
def ZiY (x:ZdA):StD Wz:=(((),()),())
def ZVo (d:StD WA):ZdB:=(d.1.1)
def ZiZ (x:ZdB):StD WA:=((x,()),())
def ZvF:Nat→Tm→Prog (Nat×Tm):=(varP 0 (fun T h=>(rdS Zgv T h).map ZCS) Zrx (fun y=>.alt y (altE 2 Wz ZiY) (altE 1 WA ZiZ)) (fun _ _=>.fail))
def ZH0:Lpc:=⟨180,0,25,(fun base T=>.norm base (ZtV 0) T (ZvF base)),by kernel_rfl,by kernel_rfl,(loopU [] [] 40 1048576 8 (keep:=ZtV) (q:=ZvF) (by kernel_rfl) (Zv (s:=Zgv) (un:=ZEC) (by rfl) (fun _=>rfl) (ZW (Zn (s:=Wz) (un:=ZiY) (flat:=ZVn) (by rfl) (fun _=>rfl)) (Zn (s:=WA) (un:=ZiZ) (flat:=ZVo) (by rfl) (fun _=>rfl))) (step:=Zro) (fun _=>by kernel_rfl) (fun _ _ e=>⟨_,e⟩) (ZV (Zm 2 Wz ZiY) (Zm 1 WA ZiZ)) (ZB.fail _ _)))⟩
def ZET:=conP true ZQF (.dat .bool) Zs3
theorem ZQ1:Zf prog 180 ZET:=Ze (calU [] [ZH0] 40 1048576 8 180) true (by rfl) (by rfl) (fun x r e=>(Zk _ _ _ _ _ _ _).trans ((show _=Zs3 x by kernel_rfl).trans e)) (.inl rfl)
def ZR1:List Sh:=[.dat (.int .i64),.dat (.int .i64),.dat (.int .i64),.dat (.int .i64)]
def ZV4:List Con:=[⟨180,ZET,ZQ1⟩,⟨100,Zs7,Zz7⟩]
def ZHg:=conP true ZR1 (.dat .bool) Zc
theorem ZTJ:Zf prog 141 ZHg:=Ze (calU ZV4 [] 40 1048576 8 141) true (by rfl) (by rfl) (fun x r e=>(Zk _ _ _ _ _ _ _).trans ((show _=Zc x by kernel_rfl).trans e)) (.inl rfl)
def ZR0:List Sh:=[.dat tU,.dat tC,.dat tA]
def ZV3:List Con:=[⟨31,Zg4,Zlr⟩,⟨100,Zs7,Zz7⟩,⟨141,ZHg,ZTJ⟩]
def ZHf:=conP true ZR0 (.dat .bool) Zp4
theorem ZTI:Zf prog 101 ZHf:=Ze (calU ZV3 [] 40 1048576 8 101) true (by rfl) (by rfl) (fun x r e=>(Zk _ _ _ _ _ _ _).trans ((show _=Zp4 x by kernel_rfl).trans e)) (.inl rfl)
def ZUJ:List Sh:=[.dat tU]
def ZyW:Nat→List Nat:=fun c=>bif c.beq 0 then [1,3] else [1,2]
def ZyX:Nat→List Nat:=fun c=>bif c.beq 0 then [1,4] else [1,2]
def ZyZ:Nat→List Nat:=fun c=>bif c.beq 0 then [1,5,6,7,8] else [1,2,5]
def ZyY:Nat→List Nat:=fun c=>bif c.beq 0 then [1,5] else [2]
def Zib:List Con:=[⟨100,Zs7,Zz7⟩,⟨31,Zg4,Zlr⟩,⟨101,ZHf,ZTI⟩]
def Zk0:StS:=⟨[(1,.ptr 0 0),(3,.int .i64)],[(0,.box [.sl (.int .i64),.sl (.int .i64),.int .i64,.sl tC])],1⟩
def Zdc:StS:=⟨[(1,.ptr 0 0),(2,.undef)],[(0,.box [.sl (.int .i64),.sl (.int .i64),.int .i64,.sl tC])],1⟩
def Zdd:StS:=⟨[(1,.ptr 0 0),(2,.bool)],[(0,.box [.sl (.int .i64),.sl (.int .i64),.int .i64,.sl tC])],1⟩
def ZJs:StD Zk0→Zb5:=fun ((_,a,_),((b,c,d,e,_),_))=>(a,b,c,d,e)
def ZJ5:Zb5→StD Zk0:=fun (a,b,c,d,e)=>(((),a,()),((b,c,d,e,()),()))
def ZY5:StD Zdc→Yh:=fun ((_,_,_),((a,b,c,d,_),_))=>(a,b,c,d)
def Zmk:Yh→StD Zdc:=fun (a,b,c,d)=>(((),(),()),((a,b,c,d,()),()))
def ZY6:StD Zdd→Yi:=fun ((_,a,_),((b,c,d,e,_),_))=>(a,b,c,d,e)
def Zml:Yi→StD Zdd:=fun (a,b,c,d,e)=>(((),a,()),((b,c,d,e,()),()))
def ZA8:Nat→Tm→Prog (Nat×Tm):=(varP 0 (fun T h=>(rdS Zk0 T h).map ZJs) Zfs (fun y=>.alt y (altE 2 Zdc Zmk) (altE 1 Zdd Zml)) (fun _ _=>.fail))
def WZ:Lpc:=⟨64,0,123,(fun base T=>.norm base (ZyW 0) T (ZA8 base)),by kernel_rfl,by kernel_rfl,(loopU Zib [] 40 1048576 8 (keep:=ZyW) (q:=ZA8) (by kernel_rfl) (Zv (s:=Zk0) (un:=ZJ5) (by rfl) (fun _=>rfl) (ZW (Zn (s:=Zdc) (un:=Zmk) (flat:=ZY5) (by rfl) (fun _=>rfl)) (Zn (s:=Zdd) (un:=Zml) (flat:=ZY6) (by rfl) (fun _=>rfl))) (step:=ZvJ) (fun _=>by kernel_rfl) (fun _ _ e=>⟨_,e⟩) (ZV (Zm 2 Zdc Zmk) (Zm 1 Zdd Zml)) (ZB.fail _ _)))⟩
abbrev Z2t:=cxU Zib [WZ] 40 1048576
def Zk1:StS:=⟨[(1,.ptr 0 0),(4,.int .i64)],[(0,.box [.sl (.int .i64),.sl (.int .i64),.int .i64,.sl tC])],1⟩
def Zde:StS:=⟨[(1,.ptr 0 0),(2,.undef)],[(0,.box [.sl (.int .i64),.sl (.int .i64),.int .i64,.sl tC])],1⟩
def Zdf:StS:=⟨[(1,.ptr 0 0),(2,.bool)],[(0,.box [.sl (.int .i64),.sl (.int .i64),.int .i64,.sl tC])],1⟩
def ZJt:StD Zk1→Zb6:=fun ((_,a,_),((b,c,d,e,_),_))=>(a,b,c,d,e)
def ZJ6:Zb6→StD Zk1:=fun (a,b,c,d,e)=>(((),a,()),((b,c,d,e,()),()))
def ZY7:StD Zde→Yj:=fun ((_,_,_),((a,b,c,d,_),_))=>(a,b,c,d)
def Zmm:Yj→StD Zde:=fun (a,b,c,d)=>(((),(),()),((a,b,c,d,()),()))
def ZY8:StD Zdf→Yk:=fun ((_,a,_),((b,c,d,e,_),_))=>(a,b,c,d,e)
def Zmn:Yk→StD Zdf:=fun (a,b,c,d,e)=>(((),a,()),((b,c,d,e,()),()))
def ZA9:Nat→Tm→Prog (Nat×Tm):=(varP 0 (fun T h=>(rdS Zk1 T h).map ZJt) Zft (fun y=>.alt y (altE 4 Zde Zmm) (altE 1 Zdf Zmn)) (fun _ _=>.fail))
def ZhI:Lpc:=⟨64,2,123,(fun base T=>.norm base (ZyX 0) T (ZA9 base)),by kernel_rfl,by kernel_rfl,(loopU Zib [WZ] 40 1048576 8 (keep:=ZyX) (q:=ZA9) (by kernel_rfl) (Zv (s:=Zk1) (un:=ZJ6) (by rfl) (fun _=>rfl) (ZW (Zn (s:=Zde) (un:=Zmm) (flat:=ZY7) (by rfl) (fun _=>rfl)) (Zn (s:=Zdf) (un:=Zmn) (flat:=ZY8) (by rfl) (fun _=>rfl))) (step:=ZvK) (fun _=>by kernel_rfl) (fun _ _ e=>⟨_,e⟩) (ZV (Zm 4 Zde Zmm) (Zm 1 Zdf Zmn)) (ZB.fail _ _)))⟩
abbrev Z2v:=cxU Zib [WZ,ZhI] 40 1048576
def Zk3:StS:=⟨[(1,.ptr 0 0),(5,.int .i64),(6,.ptr 1 0),(7,.int .i64),(8,.int .i64)],[(0,.box [.sl (.int .i64),.sl (.int .i64),.int .i64,.sl tC]),(1,.box [.int .i64,.sl tA])],2⟩
def Zdi:StS:=⟨[(1,.ptr 0 0),(2,.undef),(5,.int .i64)],[(0,.box [.sl (.int .i64),.sl (.int .i64),.int .i64,.sl tC])],1⟩
def Zdj:StS:=⟨[(1,.ptr 0 0),(2,.bool),(5,.int .i64)],[(0,.box [.sl (.int .i64),.sl (.int .i64),.int .i64,.sl tC])],1⟩
def ZJv:StD Zk3→Zb7:=fun ((_,a,_,b,c,_),((d,e,f,g,_),(h,i,_),_))=>(a,b,c,d,e,f,g,h,i)
def ZJ8:Zb7→StD Zk3:=fun (a,b,c,d,e,f,g,h,i)=>(((),a,(),b,c,()),((d,e,f,g,()),(h,i,()),()))
def ZZb:StD Zdi→Yl:=fun ((_,_,a,_),((b,c,d,e,_),_))=>(a,b,c,d,e)
def Zmq:Yl→StD Zdi:=fun (a,b,c,d,e)=>(((),(),a,()),((b,c,d,e,()),()))
def ZZc:StD Zdj→Ym:=fun ((_,a,b,_),((c,d,e,f,_),_))=>(a,b,c,d,e,f)
def Zmr:Ym→StD Zdj:=fun (a,b,c,d,e,f)=>(((),a,b,()),((c,d,e,f,()),()))
def ZBb:Nat→Tm→Prog (Nat×Tm):=(varP 0 (fun T h=>(rdS Zk3 T h).map ZJv) Zb2 (fun y=>.alt y (altE 8 Zdi Zmq) (altE 1 Zdj Zmr)) (fun _ _=>.fail))
def ZqK:Lpc:=⟨64,6,123,(fun base T=>.norm base (ZyZ 0) T (ZBb base)),by kernel_rfl,by kernel_rfl,(loopU Zib [WZ,ZhI] 40 1048576 8 (keep:=ZyZ) (q:=ZBb) (by kernel_rfl) (Zv (s:=Zk3) (un:=ZJ8) (by rfl) (fun _=>rfl) (ZW (Zn (s:=Zdi) (un:=Zmq) (flat:=ZZb) (by rfl) (fun _=>rfl)) (Zn (s:=Zdj) (un:=Zmr) (flat:=ZZc) (by rfl) (fun _=>rfl))) (step:=ZvM) (fun _=>by kernel_rfl) (fun _ _ e=>⟨_,e⟩) (ZV (Zm 8 Zdi Zmq) (Zm 1 Zdj Zmr)) (ZB.fail _ _)))⟩
abbrev Z2u:=cxU Zib [WZ,ZhI,ZqK] 40 1048576
def Zk2:StS:=⟨[(1,.ptr 0 0),(5,.int .i64)],[(0,.box [.sl (.int .i64),.sl (.int .i64),.int .i64,.sl tC])],1⟩
def Zdg:StS:=⟨[(2,.undef)],[],0⟩
def Zdh:StS:=⟨[(2,.bool)],[],0⟩
def ZJu:StD Zk2→Zfy:=fun ((_,a,_),((b,c,d,e,_),_))=>(a,b,c,d,e)
def ZJ7:Zfy→StD Zk2:=fun (a,b,c,d,e)=>(((),a,()),((b,c,d,e,()),()))
def ZY9 (d:StD Zdg):Zhw:=()
def Zmo (x:Zhw):StD Zdg:=(((),()),())
def ZZa (d:StD Zdh):Zhx:=(d.1.1)
def Zmp (x:Zhx):StD Zdh:=((x,()),())
def ZBa:Nat→Tm→Prog (Nat×Tm):=(varP 0 (fun T h=>(rdS Zk2 T h).map ZJu) Zfu (fun y=>.alt y (altE 6 Zdg Zmo) (altE 1 Zdh Zmp)) (fun _ _=>.fail))
def ZMA:Lpc:=⟨64,4,123,(fun base T=>.norm base (ZyY 0) T (ZBa base)),by kernel_rfl,by kernel_rfl,(loopU Zib [WZ,ZhI,ZqK] 40 1048576 8 (keep:=ZyY) (q:=ZBa) (by kernel_rfl) (Zv (s:=Zk2) (un:=ZJ7) (by rfl) (fun _=>rfl) (ZW (Zn (s:=Zdg) (un:=Zmo) (flat:=ZY9) (by rfl) (fun _=>rfl)) (Zn (s:=Zdh) (un:=Zmp) (flat:=ZZa) (by rfl) (fun _=>rfl))) (step:=ZvL) (fun _=>by kernel_rfl) (fun _ _ e=>⟨_,e⟩) (ZV (Zm 6 Zdg Zmo) (Zm 1 Zdh Zmp)) (ZB.fail _ _)))⟩
def Zzv:=conP true ZUJ (.dat .bool) Zpm
theorem ZKH:Zf prog 64 Zzv:=Ze (calU Zib [WZ,ZhI,ZqK,ZMA] 40 1048576 8 64) true (by rfl) (by rfl) (fun x r e=>(Zk _ _ _ _ _ _ _).trans ((show _=Zpm x by kernel_rfl).trans e)) (.inl rfl)
def ZUI:List Sh:=[.dat tI]
def ZYU:List Con:=[⟨95,Vk,Za3⟩,⟨31,Zg4,Zlr⟩]
def ZHD (a0:I):Option Bool:=bif a0.1==1&&a0.2==0 then some true else bif decide (a0.1≤a0.2) then Za (Zo (a0.1,())) none fun d2=>bif d2 then Za (Zo (a0.2,())) none fun d3=>some d3 else some false else some false
def Zkf (x:I×Unit):Option Bool:=ZHD x.1
def Zzu:=conP true ZUI (.dat .bool) Zkf
theorem ZKG:Zf prog 60 Zzu:=Ze (calU ZYU [] 40 1048576 8 60) true (by rfl) (by rfl) (fun x r e=>(Zk _ _ _ _ _ _ _).trans ((show _=Zkf x by kernel_rfl).trans e)) (.inl rfl)
theorem ZPC (x:I):ZHD x=some (isB x):=by
 unfold ZHD Zo isB
 simp only [Qf,Zb]
 cases (x.1==1&&x.2==0)
 ·cases decide (x.1≤x.2)
  ·rfl
  ·cases fitB x.1<;>rfl
 ·rfl
def ZQw:List Sh:=[.dat tEn]
def ZEQ:=conP true ZQw (.dat (.int .i64)) Zot
theorem ZQY:Zf prog 96 ZEQ:=Ze (calU [] [] 40 1048576 8 96) true (by rfl) (by rfl) (fun x r e=>(Zk _ _ _ _ _ _ _).trans ((show _=Zot x by kernel_rfl).trans e)) (.inl rfl)
def ZL4:List Sh:=[.dat tEn,.dat tEn]
def ZrL:Nat→List Nat:=fun c=>bif c.beq 0 then [5,6,7] else [4]
def ZBR:List Con:=[⟨96,ZEQ,ZQY⟩]
def ZeU:StS:=⟨[(5,.row 0),(6,.row 1),(7,.int .i64)],[(0,.row (.int .i64)),(1,.row (.int .i64))],2⟩
def Vd:StS:=⟨[(4,.undef)],[],0⟩
def Ve:StS:=⟨[(4,.int .i64)],[],0⟩
def ZAK:StD ZeU→WQ:=fun ((_,_,a,_),(b,c,_))=>(a,b,c)
def ZCb:WQ→StD ZeU:=fun (a,b,c)=>(((),(),a,()),(b,c,()))
def ZUt (d:StD Vd):Zcj:=()
def ZgU (x:Zcj):StD Vd:=(((),()),())
def ZUu (d:StD Ve):Zck:=(d.1.1)
def ZgV (x:Zck):StD Ve:=((x,()),())
def Zua:Nat→Tm→Prog (Nat×Tm):=(varP 0 (fun T h=>(rdS ZeU T h).map ZAK) Zef (fun y=>.alt y (altE 2 Vd ZgU) (altE 1 Ve ZgV)) (fun _ _=>.fail))
def ZF3:Lpc:=⟨61,0,48,(fun base T=>.norm base (ZrL 0) T (Zua base)),by kernel_rfl,by kernel_rfl,(loopU ZBR [] 40 1048576 8 (keep:=ZrL) (q:=Zua) (by kernel_rfl) (Zv (s:=ZeU) (un:=ZCb) (by rfl) (fun _=>rfl) (ZW (Zn (s:=Vd) (un:=ZgU) (flat:=ZUt) (by rfl) (fun _=>rfl)) (Zn (s:=Ve) (un:=ZgV) (flat:=ZUu) (by rfl) (fun _=>rfl))) (step:=K8) (fun _=>by kernel_rfl) (fun _ _ e=>⟨_,e⟩) (ZV (Zm 2 Vd ZgU) (Zm 1 Ve ZgV)) (ZB.fail _ _)))⟩
def Zqd:=conP true ZL4 (.dat (.int .i64)) Jd
theorem Zzb:Zf prog 61 Zqd:=Ze (calU ZBR [ZF3] 40 1048576 8 61) true (by rfl) (by rfl) (fun x r e=>(Zk _ _ _ _ _ _ _).trans ((show _=Jd x by kernel_rfl).trans e)) (.inl rfl)
def ZRP:List Sh:=[.dat (.sl tEn)]
def Zw8:Nat→List Nat:=fun c=>bif c.beq 0 then [0,3] else [2]
def ZKO:List Con:=[⟨60,Zzu,ZKG⟩,⟨47,Qs,QP⟩,⟨61,Zqd,Zzb⟩]
def Zja:StS:=⟨[(0,.sl tEn),(3,.int .i64)],[],0⟩
def ZbY:StS:=⟨[(2,.undef)],[],0⟩
def ZbZ:StS:=⟨[(2,.bool)],[],0⟩
abbrev ZaW:=((List En)×Int)
def ZHs (d:StD Zja):ZaW:=(d.1.1,d.1.2.1)
def ZIS (x:ZaW):StD Zja:=((x.1,x.2,()),())
abbrev KK:=Unit
def ZYc (d:StD ZbY):KK:=()
def Zle (x:KK):StD ZbY:=(((),()),())
abbrev KL:=Bool
def ZYd (d:StD ZbZ):KL:=(d.1.1)
def Zlf (x:KL):StD ZbZ:=((x,()),())
def ZcZ (s0:List En) (s3:Int):Option (((List En)×Int)⊕(Unit⊕Bool)):=bif decide (s3<(s0.length:Int)) then bif decide (0≤s3) then Za s0[s3.toNat]? none fun d4=>Za (Zkf (d4.2.2.2.2,())) none fun d5=>bif !d5 then some (.inr (.inr false)) else bif decide (0≤s3) then Za s0[s3.toNat]? none fun d6=>bif decide (d6.2.2.2.2.1>d6.2.2.2.2.2) then some (.inr (.inr false)) else bif decide (0≤s3) then Za s0[s3.toNat]? none fun d7=>bif decide (d7.2.2.2.1<0) then some (.inr (.inr false)) else bif decide (0≤s3) then Za s0[s3.toNat]? none fun d8=>bif decide (d8.2.2.2.1≥2147483648) then some (.inr (.inr false)) else bif decide (s3>0) then bif decide (0≤i64.wrap (s3 - 1)) then Za s0[(i64.wrap (s3 - 1)).toNat]? none fun d9=>bif decide (0≤s3) then Za s0[s3.toNat]? none fun d10=>Za (Jd (d9,d10,())) none fun d11=>bif decide (d11≥0) then some (.inr (.inr false)) else some (.inl (s0,i64.wrap (s3+1))) else none else none else some (.inl (s0,i64.wrap (s3+1))) else none else none else none else none else some (.inr (.inl PUnit.unit))
def Zul (x:ZaW):Option (ZaW⊕(KK⊕KL)):=ZcZ x.1 x.2
def Zi0 (x:ZaW):Option (KK⊕KL):=Zh Zul Zl x
def Zy5:Nat→Tm→Prog (Nat×Tm):=(varP 0 (fun T h=>(rdS Zja T h).map ZHs) Zi0 (fun y=>.alt y (altE 2 ZbY Zle) (altE 1 ZbZ Zlf)) (fun _ _=>.fail))
def ZLr:Lpc:=⟨30,0,58,(fun base T=>.norm base (Zw8 0) T (Zy5 base)),by kernel_rfl,by kernel_rfl,(loopU ZKO [] 40 1048576 8 (keep:=Zw8) (q:=Zy5) (by kernel_rfl) (Zv (s:=Zja) (un:=ZIS) (by rfl) (fun _=>rfl) (ZW (Zn (s:=ZbY) (un:=Zle) (flat:=ZYc) (by rfl) (fun _=>rfl)) (Zn (s:=ZbZ) (un:=Zlf) (flat:=ZYd) (by rfl) (fun _=>rfl))) (step:=Zul) (fun _=>by kernel_rfl) (fun _ _ e=>⟨_,e⟩) (ZV (Zm 2 ZbY Zle) (Zm 1 ZbZ Zlf)) (ZB.fail _ _)))⟩
def ZCZ (a0:List En):Option Bool:=Za (Zi0 (a0,0)) none fun d3=>Sum.elim (fun e4=>some true) (fun e4=>some e4) d3
def Znx (x:(List En)×Unit):Option Bool:=ZCZ x.1
def ZwL:=conP false ZRP (.dat .bool) Znx
theorem ZIu:Zf prog 30 ZwL:=Ze (calU ZKO [ZLr] 40 1048576 8 30) false (by rfl) (by rfl) (fun x r e=>(Zk _ _ _ _ _ _ _).trans ((show _=Znx x by kernel_rfl).trans e)) (.inr fun _=>rfl)
def Zhz  (s0:(List En)) (i:Nat)  (d:En):Option (Unit⊕(KK⊕KL)):=
 Za (Zkf (d.2.2.2.2,())) (none) fun d5=>
  bif !d5 then
  some (.inr (.inr false))
 else bif decide (d.2.2.2.2.1>d.2.2.2.2.2) then
  some (.inr (.inr false))
 else bif decide (d.2.2.2.1<0) then
  some (.inr (.inr false))
 else bif decide (d.2.2.2.1≥2147483648) then
  some (.inr (.inr false))
 else bif decide ((i:Int)>0) then
  bif decide (0≤i64.wrap ((i:Int) - 1)) then
  Za s0[(i64.wrap ((i:Int) - 1)).toNat]? (none) fun d9=>
  Za (Jd (d9,d,())) (none) fun d11=>
  bif decide (d11≥0) then
  some (.inr (.inr false))
 else some (.inl ())
 else none
 else some (.inl ())
def Ztu  (s0:(List En)):Option (KK⊕KL):=
 some (.inl PUnit.unit)
abbrev ZIp  (s0:(List En)) (i:Nat) (s:Unit):ZaW:=(s0,(i:Int))
def Zno  (s0:(List En)) (s:Unit):Option (KK⊕KL):=Zp (fun i s d=>Zhz  s0 i  d) (fun s=>Ztu  s0 ) 0 s0 s
theorem ZIl  (s0:(List En)) (s:Unit) (hl:s0.length<9223372036854775807):Zi0 (s0,0)=Zno  s0 s:=by
 unfold Zi0 Zno
 refine Zs s0 (ZIp  s0) _ _ ?_ ?_ s (by unfold Zl;omega)
 ·intro i s d hi hd
  have e1:decide ((i:Int)<(s0.length:Int))=true:=dT0 (by omega)
  have e2:decide (0≤(i:Int))=true:=dT0 (by omega)
  have e3:Int.toNat (i:Int)=i:=tN0 i
  have e4:=Zq hi (Nat.le_of_lt hl)
  show ZcZ (s0) ((i:Int))=upd _ (Zhz  s0 i  d)
  unfold ZcZ Zhz
  simp only [e1,e2,e3,e4,hd,cond_true,cond_false,Zb,ZC,ZF,ZD,ZI,ZJ,ZE]
 ·intro s
  have e1:decide ((s0.length:Int)<(s0.length:Int))=false:=dF0 (by omega)
  show ZcZ (s0) ((s0.length:Int))=_
  unfold ZcZ Ztu
  rw [e1]
  rfl
def ZNI:List Sh:=[.dat tU,.dat (.int .i64),.dat tE]
def ZtH:Nat→List Nat:=fun c=>bif c.beq 0 then [7,8] else [6]
def ZFd:List Con:=[⟨60,Zzu,ZKG⟩,⟨47,Qs,QP⟩]
def Zgc:StS:=⟨[(7,.row 0),(8,.int .i64)],[(0,.row tI)],1⟩
def V9:StS:=⟨[(6,.undef)],[],0⟩
def Wa:StS:=⟨[(6,.bool)],[],0⟩
abbrev Ht:=(Int×(List I))
def ZCz (d:StD Zgc):Ht:=(d.1.2.1,d.2.1)
def ZEj (x:Ht):StD Zgc:=(((),x.1,()),(x.2,()))
abbrev Jo:=Unit
def ZUX (d:StD V9):Jo:=()
def Ziy (x:Jo):StD V9:=(((),()),())
abbrev Jp:=Bool
def ZUY (d:StD Wa):Jp:=(d.1.1)
def Ziz (x:Jp):StD Wa:=((x,()),())
def W8 (s8:Int) (b0:List I):Option ((Int×(List I))⊕(Unit⊕Bool)):=bif decide (s8<(b0.length:Int)) then bif decide (0≤s8) then Za b0[s8.toNat]? none fun d4=>Za b0[s8.toNat]? none fun d5=>Za (Zkf (d5,())) none fun d6=>bif !d6 then some (.inr (.inr false)) else bif decide (0≤s8) then Za b0[s8.toNat]? none fun d7=>Za b0[s8.toNat]? none fun d8=>bif decide (d8.1>d8.2) then some (.inr (.inr false)) else some (.inl (i64.wrap (s8+1),b0)) else none else none else some (.inr (.inl PUnit.unit))
def Zq9 (x:Ht):Option (Ht⊕(Jo⊕Jp)):=W8 x.1 x.2
def Zbj (x:Ht):Option (Jo⊕Jp):=Zh Zq9 Zl x
def Zvp:Nat→Tm→Prog (Nat×Tm):=(varP 0 (fun T h=>(rdS Zgc T h).map ZCz) Zbj (fun y=>.alt y (altE 2 V9 Ziy) (altE 1 Wa Ziz)) (fun _ _=>.fail))
def ZHR:Lpc:=⟨35,0,86,(fun base T=>.norm base (ZtH 0) T (Zvp base)),by kernel_rfl,by kernel_rfl,(loopU ZFd [] 40 1048576 8 (keep:=ZtH) (q:=Zvp) (by kernel_rfl) (Zv (s:=Zgc) (un:=ZEj) (by rfl) (fun _=>rfl) (ZW (Zn (s:=V9) (un:=Ziy) (flat:=ZUX) (by rfl) (fun _=>rfl)) (Zn (s:=Wa) (un:=Ziz) (flat:=ZUY) (by rfl) (fun _=>rfl))) (step:=Zq9) (fun _=>by kernel_rfl) (fun _ _ e=>⟨_,e⟩) (ZV (Zm 2 V9 Ziy) (Zm 1 Wa Ziz)) (ZB.fail _ _)))⟩
def WX (a0:U) (a1:Int) (a2:E):Option Bool:=bif decide (0≤a1) then Za a0.2.2.2[a1.toNat]? none fun d5=>bif (List.length a2.2.1:Int) !=d5.1 then some false else bif (List.length a2.2.2.1:Int) !=(List.length a0.1:Int) then some false else bif (List.length a2.2.2.2.1:Int) !=(List.length a0.2.1:Int) then some false else bif decide (a2.2.2.2.2.1<0) then some false else bif decide (a2.2.2.2.2.2<0) then some false else bif decide (a2.2.2.2.2.1≥2147483648) then some false else bif decide (a2.2.2.2.2.2≥2147483648) then some false else bif decide (((List.length (α:=I) [])+List.length a2.2.1+1)*16≤lim) then bif decide ((([]++a2.2.1).length+List.length a2.2.2.1+1)*16≤lim) then bif decide ((([]++a2.2.1++a2.2.2.1).length+List.length a2.2.2.2.1+1)*16≤lim) then Za (Zbj (0,[]++a2.2.1++a2.2.2.1++a2.2.2.2.1)) none fun d6=>Sum.elim (fun e7=>some true) (fun e7=>some e7) d6 else none else none else none else none
def Yb (x:(U×(Int×(E×Unit)))):Option Bool:=WX x.1 x.2.1 x.2.2.1
def Zsk:=conP true ZNI (.dat .bool) Yb
theorem ZBF:Zf prog 35 Zsk:=Ze (calU ZFd [ZHR] 40 1048576 8 35) true (by rfl) (by rfl) (fun x r e=>(Zk _ _ _ _ _ _ _).trans ((show _=Yb x by kernel_rfl).trans e)) (.inl rfl)
def Zeu  (b0:(List I)) (i:Nat)  (d:I):Option (Unit⊕(Jo⊕Jp)):=
 Za (Zkf (d,())) (none) fun d6=>
  bif !d6 then
  some (.inr (.inr false))
 else bif decide (d.1>d.2) then
  some (.inr (.inr false))
 else some (.inl ())
def Zqm  (b0:(List I)):Option (Jo⊕Jp):=
 some (.inl PUnit.unit)
abbrev ZDQ  (b0:(List I)) (i:Nat) (s:Unit):Ht:=((i:Int),b0)
def ZkM  (b0:(List I)) (s:Unit):Option (Jo⊕Jp):=Zp (fun i s d=>Zeu  b0 i  d) (fun s=>Zqm  b0 ) 0 b0 s
theorem ZDF  (b0:(List I)) (s:Unit) (hl:b0.length<9223372036854775807):Zbj (0,b0)=ZkM  b0 s:=by
 unfold Zbj ZkM
 refine Zs b0 (ZDQ  b0) _ _ ?_ ?_ s (by unfold Zl;omega)
 ·intro i s d hi hd
  have e1:decide ((i:Int)<(b0.length:Int))=true:=dT0 (by omega)
  have e2:decide (0≤(i:Int))=true:=dT0 (by omega)
  have e3:Int.toNat (i:Int)=i:=tN0 i
  have e4:=Zq hi (Nat.le_of_lt hl)
  show W8 ((i:Int)) (b0)=upd _ (Zeu  b0 i  d)
  unfold W8 Zeu
  simp only [e1,e2,e3,e4,hd,cond_true,cond_false,Zb,ZC,ZF,ZD,ZI,ZJ,ZE]
 ·intro s
  have e1:decide ((b0.length:Int)<(b0.length:Int))=false:=dF0 (by omega)
  show W8 ((b0.length:Int)) (b0)=_
  unfold W8 Zqm
  rw [e1]
  rfl
theorem ZMH (l:List En) (hl:l.length<9223372036854775807):ZCZ l=some (ZAR l):=by
 unfold ZCZ
 rw [ZIl l () hl]
 unfold Zno
 rw [Vo (p:=Zwz l) (o:=.inr false) l 0 fun j d hd=>?_]
 ·unfold ZAR
  cases allIx (Zwz l) 0 l<;>rfl
 ·have hj:j<l.length:=(List.getElem?_eq_some_iff.1 hd).1
  unfold Zhz Zkf Jd Zwz entB
  simp only [ZPC,Zlo,Zb,Nat.zero_add]
  cases isB d.2.2.2.2
  ·rfl
  by_cases h1:d.2.2.2.2.1>d.2.2.2.2.2
  ·rw [dT0 h1,show Zd d.2.2.2.2=true from ZnB h1];rfl
  rw [dF0 h1,show Zd d.2.2.2.2=false from Z8 (Int.not_lt.1 h1)]
  by_cases h2:d.2.2.2.1<0
  ·rw [dT0 h2];rfl
  by_cases h3:d.2.2.2.1≥2147483648
  ·rw [dF0 h2,dT0 h3];rfl
  rw [dF0 h2,dF0 h3]
  by_cases h4:j>0
  ·rw [show decide ((j:Int)>0)=true from dT0 (by omega),dT0 h4]
   have e5:i64.wrap ((j:Int) - 1)=((j - 1:Nat):Int):=by rw [Znt (by omega) (by omega)];omega
   rw [e5,show decide (0≤((j - 1:Nat):Int))=true from dT0 (by omega),tN0]
   obtain ⟨p,hp⟩:∃ p,l[j - 1]? = some p:=⟨l[j - 1]'(by omega),List.getElem?_eq_getElem _⟩
   rw [hp]
   simp only [cond_true,cond_false,Zb,Option.elim_some,Bool.not_true,Bool.not_false,Bool.true_and]
   cases decide (ordI p d≥0)<;>rfl
  ·rw [show decide ((j:Int)>0)=false from dF0 (by omega),dF0 h4];rfl
theorem ZPi (l:List I) (hl:l.length<9223372036854775807):Zbj (0,l)=bif l.all (fun x=>isB x && !Zd x) then some (.inl ()) else some (.inr false):=by
 rw [ZDF l () hl]
 unfold ZkM
 rw [Vo (p:=fun _ x=>isB x && !Zd x) (o:=.inr false) l 0 fun j d hd=>?_,Zpn]
 ·rfl
 ·unfold Zeu Zkf
  simp only [ZPC,Zb]
  cases isB d
  ·rfl
  by_cases h1:d.1>d.2
  ·rw [dT0 h1,ZnB h1];rfl
  ·rw [dF0 h1,Z8 (by omega)];rfl
theorem ZZ8 {a b:Int}:(a !=b) = !decide (a=b):=by
 by_cases h:a=b<;>simp [h,bne]
def ZQE:List Sh:=[.dat (.int .i64),.dat (.sl (.int .i64))]
def ZtQ:Nat→List Nat:=fun c=>bif c.beq 0 then [0,1,5] else [0]
def Zgn:StS:=⟨[(0,.int .i64),(1,.sl (.int .i64)),(5,.int .i64)],[],0⟩
def Wr:StS:=⟨[(0,.int .i64)],[],0⟩
def ZCK:StD Zgn→HA:=fun ((a,b,c,_),_)=>(a,b,c)
def ZEu:HA→StD Zgn:=fun (a,b,c)=>((a,b,c,()),())
def ZVf (d:StD Wr):JC:=(d.1.1)
def ZiQ (x:JC):StD Wr:=((x,()),())
def Zvy:Nat→Tm→Prog (Nat×Tm):=(varP 0 (fun T h=>(rdS Zgn T h).map ZCK) Zbk (altE 2 Wr ZiQ) (fun _ _=>.fail))
def ZHX:Lpc:=⟨121,0,33,(fun base T=>.norm base (ZtQ 0) T (Zvy base)),by kernel_rfl,by kernel_rfl,(loopU [] [] 40 1048576 8 (keep:=ZtQ) (q:=Zvy) (by kernel_rfl) (Zv (s:=Zgn) (un:=ZEu) (by rfl) (fun _=>rfl) (Zn (s:=Wr) (un:=ZiQ) (flat:=ZVf) (by rfl) (fun _=>rfl)) (step:=Zrk) (fun _=>by kernel_rfl) (fun _ _ e=>⟨_,e⟩) (Zm 2 Wr ZiQ) (ZB.fail _ _)))⟩
def ZES:=conP true ZQE (.dat (.int .i64)) Zie
theorem ZQ0:Zf prog 121 ZES:=Ze (calU [] [ZHX] 40 1048576 8 121) true (by rfl) (by rfl) (fun x r e=>(Zk _ _ _ _ _ _ _).trans ((show _=Zie x by kernel_rfl).trans e)) (.inl rfl)
def ZK7:List Sh:=[.dat (.int .i64),.dat (.sl (.int .i64))]
def Zpw:Nat→List Nat:=fun c=>bif c.beq 0 then [0,1,5] else [0]
def Zcv:StS:=⟨[(0,.int .i64),(1,.sl (.int .i64)),(5,.int .i64)],[],0⟩
def Yy:StS:=⟨[(0,.int .i64)],[],0⟩
def Zyk:StD Zcv→KF:=fun ((a,b,c,_),_)=>(a,b,c)
def Zyz:KF→StD Zcv:=fun (a,b,c)=>((a,b,c,()),())
def ZRm (d:StD Yy):Qx:=(d.1.1)
def Ze5 (x:Qx):StD Yy:=((x,()),())
def ZqS:Nat→Tm→Prog (Nat×Tm):=(varP 0 (fun T h=>(rdS Zcv T h).map Zyk) HR (altE 2 Yy Ze5) (fun _ _=>.fail))
def ZAZ:Lpc:=⟨122,0,33,(fun base T=>.norm base (Zpw 0) T (ZqS base)),by kernel_rfl,by kernel_rfl,(loopU [] [] 40 1048576 8 (keep:=Zpw) (q:=ZqS) (by kernel_rfl) (Zv (s:=Zcv) (un:=Zyz) (by rfl) (fun _=>rfl) (Zn (s:=Yy) (un:=Ze5) (flat:=ZRm) (by rfl) (fun _=>rfl)) (step:=Zn1) (fun _=>by kernel_rfl) (fun _ _ e=>⟨_,e⟩) (Zm 2 Yy Ze5) (ZB.fail _ _)))⟩
def ZwO:=conP true ZK7 (.dat (.int .i64)) Zb1
theorem ZLQ:Zf prog 122 ZwO:=Ze (calU [] [ZAZ] 40 1048576 8 122) true (by rfl) (by rfl) (fun x r e=>(Zk _ _ _ _ _ _ _).trans ((show _=Zb1 x by kernel_rfl).trans e)) (.inl rfl)
def ZRY:List Sh:=[.dat tI,.dat tI]
def ZV1:List Con:=[⟨95,Vk,Za3⟩]
def ZHe:=conP true ZRY (.dat tI) ZvV
theorem ZTH:Zf prog 165 ZHe:=Ze (calU ZV1 [] 40 1048576 8 165) true (by rfl) (by rfl) (fun x r e=>(Zk _ _ _ _ _ _ _).trans ((show _=ZvV x by kernel_rfl).trans e)) (.inl rfl)
def ZRU:List Sh:=[.dat tI,.dat (.int .i64)]
def ZHc:=conP true ZRU (.dat .bool) Zp2
theorem ZTF:Zf prog 164 ZHc:=Ze (calU [] [] 40 1048576 8 164) true (by rfl) (by rfl) (fun x r e=>(Zk _ _ _ _ _ _ _).trans ((show _=Zp2 x by kernel_rfl).trans e)) (.inl rfl)
def ZQD:List Sh:=[.dat (.int .i64),.dat (.int .i64)]
def ZT3:List Con:=[⟨95,Vk,Za3⟩]
def Zll:=conP true ZQD (.dat tI) Z3
theorem Zo3:Zf prog 167 Zll:=Ze (calU ZT3 [] 40 1048576 8 167) true (by rfl) (by rfl) (fun x r e=>(Zk _ _ _ _ _ _ _).trans ((show _=Z3 x by kernel_rfl).trans e)) (.inl rfl)
def ZQC:List Sh:=[.dat (.int .i64),.dat (.int .i64)]
def ZT2:List Con:=[⟨167,Zll,Zo3⟩]
def ZuB:=conP true ZQC (.tup [.dat tI,.dat .bool]) HO
theorem ZE8:Zf prog 161 ZuB:=Ze (calU ZT2 [] 40 1048576 8 161) true (by rfl) (by rfl) (fun x r e=>(Zk _ _ _ _ _ _ _).trans ((show _=HO x by kernel_rfl).trans e)) (.inl rfl)
def ZK6:List Sh:=[.dat tI,.dat tI,.dat .bool]
def Zpv:Nat→List Nat:=fun c=>bif c.beq 0 then [8,9,10,11] else [9,10]
def Zcu:StS:=⟨[(8,.row 0),(9,.int .i64),(10,.int .i64),(11,.int .i64)],[(0,.row (.int .i64))],1⟩
def Yx:StS:=⟨[(9,.int .i64),(10,.int .i64)],[],0⟩
def Zyj:StD Zcu→HS:=fun ((_,a,b,c,_),(d,_))=>(a,b,c,d)
def Zyy:HS→StD Zcu:=fun (a,b,c,d)=>(((),a,b,c,()),(d,()))
def ZRl (d:StD Yx):WR:=(d.1.1,d.1.2.1)
def Ze4 (x:WR):StD Yx:=((x.1,x.2,()),())
def ZqR:Nat→Tm→Prog (Nat×Tm):=(varP 0 (fun T h=>(rdS Zcu T h).map Zyj) HQ (altE 2 Yx Ze4) (fun _ _=>.fail))
def ZAY:Lpc:=⟨162,0,79,(fun base T=>.norm base (Zpv 0) T (ZqR base)),by kernel_rfl,by kernel_rfl,(loopU [] [] 40 1048576 8 (keep:=Zpv) (q:=ZqR) (by kernel_rfl) (Zv (s:=Zcu) (un:=Zyy) (by rfl) (fun _=>rfl) (Zn (s:=Yx) (un:=Ze4) (flat:=ZRl) (by rfl) (fun _=>rfl)) (step:=Y8) (fun _=>by kernel_rfl) (fun _ _ e=>⟨_,e⟩) (Zm 2 Yx Ze4) (ZB.fail _ _)))⟩
def Zpa:=conP true ZK6 (.tup [.dat (.int .i64),.dat (.int .i64)]) Zfh
theorem ZxQ:Zf prog 162 Zpa:=Ze (calU [] [ZAY] 40 1048576 8 162) true (by rfl) (by rfl) (fun x r e=>(Zk _ _ _ _ _ _ _).trans ((show _=Zfh x by kernel_rfl).trans e)) (.inl rfl)
def ZQB:List Sh:=[.dat tI,.dat tI]
def ZT1:List Con:=[⟨167,Zll,Zo3⟩]
def Zlk:=conP true ZQB (.dat tI) ZY
theorem Zo2:Zf prog 118 Zlk:=Ze (calU ZT1 [] 40 1048576 8 118) true (by rfl) (by rfl) (fun x r e=>(Zk _ _ _ _ _ _ _).trans ((show _=ZY x by kernel_rfl).trans e)) (.inl rfl)
def ZRX:List Sh:=[.dat tI,.dat tI]
def ZV0:List Con:=[⟨95,Vk,Za3⟩,⟨118,Zlk,Zo2⟩,⟨47,Qs,QP⟩,⟨162,Zpa,ZxQ⟩,⟨161,ZuB,ZE8⟩,⟨19,Kn,YD⟩]
def ZHd:=conP true ZRX (.tup [.dat tI,.dat .bool]) ZvU
theorem ZTG:Zf prog 163 ZHd:=Ze (calU ZV0 [] 40 1048576 8 163) true (by rfl) (by rfl) (fun x r e=>(Zk _ _ _ _ _ _ _).trans ((show _=ZvU x by kernel_rfl).trans e)) (.inl rfl)
def ZUH:List Sh:=[.dat (.int .i64),.dat tI,.dat tI]
def ZYT:List Con:=[⟨47,Qs,QP⟩,⟨95,Vk,Za3⟩,⟨161,ZuB,ZE8⟩,⟨162,Zpa,ZxQ⟩,⟨163,ZHd,ZTG⟩,⟨164,ZHc,ZTF⟩,⟨165,ZHe,ZTH⟩]
def ZKj:=conP true ZUH (.tup [.dat tI,.dat .bool,.dat .bool]) ZyD
theorem ZVO:Zf prog 116 ZKj:=Ze (calU ZYT [] 40 1048576 8 116) true (by rfl) (by rfl) (fun x r e=>(Zk _ _ _ _ _ _ _).trans ((show _=ZyD x by kernel_rfl).trans e)) (.inl rfl)
def ZNW:List Sh:=[.dat tI,.dat tI]
def ZRd:List Con:=[⟨167,Zll,Zo3⟩]
def ZAv:=conP true ZNW (.dat tI) ZmK
theorem ZON:Zf prog 168 ZAv:=Ze (calU ZRd [] 40 1048576 8 168) true (by rfl) (by rfl) (fun x r e=>(Zk _ _ _ _ _ _ _).trans ((show _=ZmK x by kernel_rfl).trans e)) (.inl rfl)
def ZL6:List Sh:=[.dat (.int .i64),.dat tI,.dat tI]
def ZOU:List Con:=[⟨47,Qs,QP⟩,⟨95,Vk,Za3⟩,⟨167,Zll,Zo3⟩,⟨118,Zlk,Zo2⟩,⟨168,ZAv,ZON⟩]
def ZyM:=conP true ZL6 (.tup [.dat tI,.dat tI]) Zli
theorem ZM8:Zf prog 123 ZyM:=Ze (calU ZOU [] 40 1048576 8 123) true (by rfl) (by rfl) (fun x r e=>(Zk _ _ _ _ _ _ _).trans ((show _=Zli x by kernel_rfl).trans e)) (.inl rfl)
def ZRV:List Sh:=[.dat tI,.dat tI]
def ZVY:List Con:=[⟨47,Qs,QP⟩]
def Zqf:=conP true ZRV (.dat .bool) JX
theorem ZxP:Zf prog 66 Zqf:=Ze (calU ZVY [] 40 1048576 8 66) true (by rfl) (by rfl) (fun x r e=>(Zk _ _ _ _ _ _ _).trans ((show _=JX x by kernel_rfl).trans e)) (.inl rfl)
abbrev Hw:=((List En)×(List En)×Int)
abbrev Ju:=Unit
abbrev Jv:=Bool
def Zab (s0 s1:List En) (s5:Int):Option (((List En)×(List En)×Int)⊕(Unit⊕Bool)):=bif decide (s5<(s0.length:Int)) then bif decide (0≤s5) then Za s0[s5.toNat]? none fun d5=>bif decide (0≤s5) then Za s1[s5.toNat]? none fun d6=>bif !(d5.1==d6.1&&(d5.2.1==d6.2.1&&(d5.2.2.1==d6.2.2.1&&(d5.2.2.2.1==d6.2.2.2.1&&(d5.2.2.2.2.1==d6.2.2.2.2.1&&d5.2.2.2.2.2==d6.2.2.2.2.2))))) then some (.inr (.inr false)) else some (.inl (s0,s1,i64.wrap (s5+1))) else none else none else some (.inr (.inl PUnit.unit))
def Zrc:Hw→Option (Hw⊕(Ju⊕Jv)):=fun (a,b,c)=>Zab a b c
def ZfO (x:Hw):Option (Ju⊕Jv):=Zh Zrc Zl x
def Zm0 (a0 a1:List En):Option Bool:=bif (a0.length:Int) !=(a1.length:Int) then some false else Za (ZfO (a0,a1,0)) none fun d4=>Sum.elim (fun e5=>some true) (fun e5=>some e5) d4
def WI (x:((List En)×((List En)×Unit))):Option Bool:=Zm0 x.1 x.2.1
def WV (s1 s0:List En) (i:Nat)  (d:En):Option (Unit⊕(Ju⊕Jv)):=
 Za s1[i]? (none) fun d6=>
  bif !(d.1==d6.1&&(d.2.1==d6.2.1&&(d.2.2.1==d6.2.2.1&&(d.2.2.2.1==d6.2.2.2.1&&(d.2.2.2.2.1==d6.2.2.2.2.1&&d.2.2.2.2.2==d6.2.2.2.2.2))))) then
  some (.inr (.inr false))
 else some (.inl ())
def Zqp (s1 s0:List En):Option (Ju⊕Jv):=
 some (.inl PUnit.unit)
abbrev ZDT (s1 s0:List En) (i:Nat) (s:Unit):Hw:=(s0,s1,(i:Int))
def ZkO (s1 s0:List En) (s:Unit):Option (Ju⊕Jv):=Zp (fun i s d=>WV s1 s0 i  d) (fun s=>Zqp s1 s0 ) 0 s0 s
theorem ZqW (s1 s0:List En) (s:Unit) (hl:s0.length<9223372036854775807):ZfO (s0,s1,0)=ZkO s1 s0 s:=by
 unfold ZfO ZkO
 refine Zs s0 (ZDT s1 s0) _ _ ?_ ?_ s (by unfold Zl;omega)
 ·intro i s d hi hd
  have e1:decide ((i:Int)<(s0.length:Int))=true:=dT0 (by omega)
  have e2:decide (0≤(i:Int))=true:=dT0 (by omega)
  have e3:Int.toNat (i:Int)=i:=tN0 i
  have e4:=Zq hi (Nat.le_of_lt hl)
  show Zab (s0) (s1) ((i:Int))=upd _ (WV s1 s0 i  d)
  unfold Zab WV
  simp only [e1,e2,e3,e4,hd,cond_true,cond_false,Zb,ZC,ZF,ZD,ZI,ZJ,ZE]
 ·intro s
  have e1:decide ((s0.length:Int)<(s0.length:Int))=false:=dF0 (by omega)
  show Zab (s0) (s1) ((s0.length:Int))=_
  unfold Zab Zqp
  rw [e1]
  rfl
def ZNS:List Sh:=[.dat tE,.dat (.int .i64),.dat tI]
def ZnA:=conP true ZNS (.dat tE) Zw
theorem ZsS:Zf prog 83 ZnA:=Ze (calU [] [] 40 1048576 8 83) true (by rfl) (by rfl) (fun x r e=>(Zk _ _ _ _ _ _ _).trans ((show _=Zw x by kernel_rfl).trans e)) (.inl rfl)
def ZNP:List Sh:=[.dat (.int .i64),.dat tE,.dat (.sl tEn),.dat .bool,.dat (.int .i64)]
def ZQ9:List Con:=[⟨117,Zsn,ZBI⟩,⟨19,Kn,YD⟩]
def ZAs:=conP true ZNP (.dat tI) Qm
theorem ZOK:Zf prog 86 ZAs:=Ze (calU ZQ9 [] 40 1048576 8 86) true (by rfl) (by rfl) (fun x r e=>(Zk _ _ _ _ _ _ _).trans ((show _=Qm x by kernel_rfl).trans e)) (.inl rfl)
def ZNQ:List Sh:=[.dat (.int .i64),.dat tA,.dat tE,.dat (.sl tEn)]
def ZtL:Nat→List Nat:=fun c=>bif c.beq 0 then [0,3,5,6,8,9,10,11] else [0,3,5,6,8,9,10]
def ZtM:Nat→List Nat:=fun c=>bif c.beq 0 then [0,3,5,6,8,9,10,12] else [5,6,8,9,10]
def Zo4:List Con:=[⟨119,Zqg,ZxR⟩,⟨120,ZwK,ZLO⟩,⟨19,Kn,YD⟩,⟨121,ZES,ZQ0⟩]
def Zgh:StS:=⟨[(0,.int .i64),(3,.sl tEn),(5,.ptr 0 0),(6,.ptr 1 0),(8,.ptr 2 0),(9,.ptr 3 0),(10,.ptr 5 0),(11,.int .i64)],[(0,.box [.int .i64,.int .i64,.int .i64,.int .i64,.int .i64,.int .i64,.int .i64,.int .i64,.int .i64]),(1,.box [.bool,.sl tI,.sl tI,.sl tI,.int .i64,.int .i64]),(2,.box [.bool,.nil,.nil,.nil,.int .i64,.int .i64,.bool,.nil,.nil,.nil,.int .i64,.int .i64,.nil,.nil,.nil]),(3,.box [.bool,.nil,.nil,.nil,.int .i64,.int .i64,.bool,.nil,.nil,.nil,.int .i64,.int .i64,.row 4,.nil,.nil]),(4,.row (.int .i64)),(5,.box [.bool,.sl tI,.row 6,.row 7,.int .i64,.int .i64]),(6,.row tI),(7,.row tI)],8⟩
def Wi:StS:=⟨[(0,.int .i64),(3,.sl tEn),(5,.ptr 0 0),(6,.ptr 1 0),(8,.ptr 2 0),(9,.ptr 3 0),(10,.ptr 5 0)],[(0,.box [.int .i64,.int .i64,.int .i64,.int .i64,.int .i64,.int .i64,.int .i64,.int .i64,.int .i64]),(1,.box [.bool,.sl tI,.sl tI,.sl tI,.int .i64,.int .i64]),(2,.box [.bool,.nil,.nil,.nil,.int .i64,.int .i64,.bool,.nil,.nil,.nil,.int .i64,.int .i64,.nil,.nil,.nil]),(3,.box [.bool,.nil,.nil,.nil,.int .i64,.int .i64,.bool,.nil,.nil,.nil,.int .i64,.int .i64,.row 4,.nil,.nil]),(4,.row (.int .i64)),(5,.box [.bool,.sl tI,.row 6,.row 7,.int .i64,.int .i64]),(6,.row tI),(7,.row tI)],8⟩
def ZCE:StD Zgh→Zbs:=fun ((a,b,_,_,_,_,_,c,_),((d,e,f,g,h,i,j,k,l,_),(m,n,o,p,q,r,_),(s,_,_,_,t,u,w,_,_,_,y,z,_,_,_,_),(au,_,_,_,aw,ay,az,_,_,_,bu,bw,_,_,_,_),bz,(cu,cw,_,_,cy,cz,_),du,dw,_))=>(a,b,c,d,e,f,g,h,i,j,k,l,m,n,o,p,q,r,s,t,u,w,y,z,au,aw,ay,az,bu,bw,bz,cu,cw,cy,cz,du,dw)
def ZEo:Zbs→StD Zgh:=fun (a,b,c,d,e,f,g,h,i,j,k,l,m,n,o,p,q,r,s,t,u,w,y,z,au,aw,ay,az,bu,bw,bz,cu,cw,cy,cz,du,dw)=>((a,b,(),(),(),(),(),c,()),((d,e,f,g,h,i,j,k,l,()),(m,n,o,p,q,r,()),(s,(),(),(),t,u,w,(),(),(),y,z,(),(),(),()),(au,(),(),(),aw,ay,az,(),(),(),bu,bw,(),(),(),()),bz,(cu,cw,(),(),cy,cz,()),du,dw,()))
def ZU6:StD Wi→Zds:=fun ((a,b,_,_,_,_,_,_),((c,d,e,f,g,h,i,j,k,_),(l,m,n,o,p,q,_),(r,_,_,_,s,t,u,_,_,_,w,y,_,_,_,_),(z,_,_,_,au,aw,ay,_,_,_,az,bu,_,_,_,_),bw,(bz,cu,_,_,cw,cy,_),cz,du,_))=>(a,b,c,d,e,f,g,h,i,j,k,l,m,n,o,p,q,r,s,t,u,w,y,z,au,aw,ay,az,bu,bw,bz,cu,cw,cy,cz,du)
def ZiH:Zds→StD Wi:=fun (a,b,c,d,e,f,g,h,i,j,k,l,m,n,o,p,q,r,s,t,u,w,y,z,au,aw,ay,az,bu,bw,bz,cu,cw,cy,cz,du)=>((a,b,(),(),(),(),(),()),((c,d,e,f,g,h,i,j,k,()),(l,m,n,o,p,q,()),(r,(),(),(),s,t,u,(),(),(),w,y,(),(),(),()),(z,(),(),(),au,aw,ay,(),(),(),az,bu,(),(),(),()),bw,(bz,cu,(),(),cw,cy,()),cz,du,()))
def Zgg:StS:=⟨[(0,.int .i64),(3,.sl tEn),(5,.ptr 0 0),(6,.ptr 1 0),(8,.ptr 2 0),(9,.ptr 3 0),(10,.ptr 4 0),(11,.int .i64)],[(0,.box [.int .i64,.int .i64,.int .i64,.int .i64,.int .i64,.int .i64,.int .i64,.int .i64,.int .i64]),(1,.box [.bool,.sl tI,.sl tI,.sl tI,.int .i64,.int .i64]),(2,.box [.bool,.nil,.nil,.nil,.int .i64,.int .i64,.bool,.nil,.nil,.nil,.int .i64,.int .i64,.nil,.nil,.nil]),(3,.box [.bool,.nil,.nil,.nil,.int .i64,.int .i64,.bool,.nil,.nil,.nil,.int .i64,.int .i64,.nil,.nil,.nil]),(4,.box [.bool,.sl tI,.row 5,.row 6,.int .i64,.int .i64]),(5,.row tI),(6,.row tI)],7⟩
def Wh:StS:=⟨[(0,.int .i64),(3,.sl tEn),(5,.ptr 0 0),(6,.ptr 1 0),(8,.ptr 2 0),(9,.ptr 3 0),(10,.ptr 4 0)],[(0,.box [.int .i64,.int .i64,.int .i64,.int .i64,.int .i64,.int .i64,.int .i64,.int .i64,.int .i64]),(1,.box [.bool,.sl tI,.sl tI,.sl tI,.int .i64,.int .i64]),(2,.box [.bool,.nil,.nil,.nil,.int .i64,.int .i64,.bool,.nil,.nil,.nil,.int .i64,.int .i64,.nil,.nil,.nil]),(3,.box [.bool,.nil,.nil,.nil,.int .i64,.int .i64,.bool,.nil,.nil,.nil,.int .i64,.int .i64,.nil,.nil,.nil]),(4,.box [.bool,.sl tI,.row 5,.row 6,.int .i64,.int .i64]),(5,.row tI),(6,.row tI)],7⟩
def ZCD:StD Zgg→Zbr:=fun ((a,b,_,_,_,_,_,c,_),((d,e,f,g,h,i,j,k,l,_),(m,n,o,p,q,r,_),(s,_,_,_,t,u,w,_,_,_,y,z,_,_,_,_),(au,_,_,_,aw,ay,az,_,_,_,bu,bw,_,_,_,_),(bz,cu,_,_,cw,cy,_),cz,du,_))=>(a,b,c,d,e,f,g,h,i,j,k,l,m,n,o,p,q,r,s,t,u,w,y,z,au,aw,ay,az,bu,bw,bz,cu,cw,cy,cz,du)
def ZEn:Zbr→StD Zgg:=fun (a,b,c,d,e,f,g,h,i,j,k,l,m,n,o,p,q,r,s,t,u,w,y,z,au,aw,ay,az,bu,bw,bz,cu,cw,cy,cz,du)=>((a,b,(),(),(),(),(),c,()),((d,e,f,g,h,i,j,k,l,()),(m,n,o,p,q,r,()),(s,(),(),(),t,u,w,(),(),(),y,z,(),(),(),()),(au,(),(),(),aw,ay,az,(),(),(),bu,bw,(),(),(),()),(bz,cu,(),(),cw,cy,()),cz,du,()))
def ZU5:StD Wh→Zdr:=fun ((a,b,_,_,_,_,_,_),((c,d,e,f,g,h,i,j,k,_),(l,m,n,o,p,q,_),(r,_,_,_,s,t,u,_,_,_,w,y,_,_,_,_),(z,_,_,_,au,aw,ay,_,_,_,az,bu,_,_,_,_),(bw,bz,_,_,cu,cw,_),cy,cz,_))=>(a,b,c,d,e,f,g,h,i,j,k,l,m,n,o,p,q,r,s,t,u,w,y,z,au,aw,ay,az,bu,bw,bz,cu,cw,cy,cz)
def ZiG:Zdr→StD Wh:=fun (a,b,c,d,e,f,g,h,i,j,k,l,m,n,o,p,q,r,s,t,u,w,y,z,au,aw,ay,az,bu,bw,bz,cu,cw,cy,cz)=>((a,b,(),(),(),(),(),()),((c,d,e,f,g,h,i,j,k,()),(l,m,n,o,p,q,()),(r,(),(),(),s,t,u,(),(),(),w,y,(),(),(),()),(z,(),(),(),au,aw,ay,(),(),(),az,bu,(),(),(),()),(bw,bz,(),(),cu,cw,()),cy,cz,()))
def Zvt:Nat→Tm→Prog (Nat×Tm):=(varP 0 (fun T h=>(rdS Zgg T h).map ZCD) ZfP (altE 2 Wh ZiG) (varP 0 (fun T h=>(rdS Zgh T h).map ZCE) ZfQ (altE 2 Wi ZiH) (fun _ _=>.fail)))
def Zm8:Lpc:=⟨88,0,108,(fun base T=>.norm base (ZtL 0) T (Zvt base)),by kernel_rfl,by kernel_rfl,(loopU Zo4 [] 40 1048576 8 (keep:=ZtL) (q:=Zvt) (by kernel_rfl) (Zv (s:=Zgg) (un:=ZEn) (by rfl) (fun _=>rfl) (Zn (s:=Wh) (un:=ZiG) (flat:=ZU5) (by rfl) (fun _=>rfl)) (step:=Zrd) (fun _=>by kernel_rfl) (fun _ _ e=>⟨_,e⟩) (Zm 2 Wh ZiG) (Zv (s:=Zgh) (un:=ZEo) (by rfl) (fun _=>rfl) (Zn (s:=Wi) (un:=ZiH) (flat:=ZU6) (by rfl) (fun _=>rfl)) (step:=Zre) (fun _=>by kernel_rfl) (fun _ _ e=>⟨_,e⟩) (Zm 2 Wi ZiH) (ZB.fail _ _))))⟩
abbrev ZZy:=cxU Zo4 [Zm8] 40 1048576
def Zgj:StS:=⟨[(0,.int .i64),(3,.sl tEn),(5,.ptr 0 0),(6,.ptr 1 0),(8,.ptr 2 0),(9,.ptr 3 0),(10,.ptr 5 0),(12,.int .i64)],[(0,.box [.int .i64,.int .i64,.int .i64,.int .i64,.int .i64,.int .i64,.int .i64,.int .i64,.int .i64]),(1,.box [.bool,.sl tI,.sl tI,.sl tI,.int .i64,.int .i64]),(2,.box [.bool,.nil,.nil,.nil,.int .i64,.int .i64,.bool,.nil,.nil,.nil,.int .i64,.int .i64,.nil,.nil,.nil]),(3,.box [.bool,.nil,.nil,.nil,.int .i64,.int .i64,.bool,.nil,.nil,.nil,.int .i64,.int .i64,.row 4,.nil,.nil]),(4,.row (.int .i64)),(5,.box [.bool,.sl tI,.row 6,.row 7,.int .i64,.int .i64]),(6,.row tI),(7,.row tI)],8⟩
def Wk:StS:=⟨[(5,.ptr 0 0),(6,.ptr 1 0),(8,.ptr 2 0),(9,.ptr 3 0),(10,.ptr 5 0)],[(0,.box [.int .i64,.int .i64,.int .i64,.int .i64,.int .i64,.int .i64,.int .i64,.int .i64,.int .i64]),(1,.box [.bool,.sl tI,.sl tI,.sl tI,.int .i64,.int .i64]),(2,.box [.bool,.nil,.nil,.nil,.int .i64,.int .i64,.bool,.nil,.nil,.nil,.int .i64,.int .i64,.nil,.nil,.nil]),(3,.box [.bool,.nil,.nil,.nil,.int .i64,.int .i64,.bool,.nil,.nil,.nil,.int .i64,.int .i64,.row 4,.nil,.nil]),(4,.row (.int .i64)),(5,.box [.bool,.sl tI,.row 6,.row 7,.int .i64,.int .i64]),(6,.row tI),(7,.row tI)],8⟩
def ZCG:StD Zgj→Zbu:=fun ((a,b,_,_,_,_,_,c,_),((d,e,f,g,h,i,j,k,l,_),(m,n,o,p,q,r,_),(s,_,_,_,t,u,w,_,_,_,y,z,_,_,_,_),(au,_,_,_,aw,ay,az,_,_,_,bu,bw,_,_,_,_),bz,(cu,cw,_,_,cy,cz,_),du,dw,_))=>(a,b,c,d,e,f,g,h,i,j,k,l,m,n,o,p,q,r,s,t,u,w,y,z,au,aw,ay,az,bu,bw,bz,cu,cw,cy,cz,du,dw)
def ZEq:Zbu→StD Zgj:=fun (a,b,c,d,e,f,g,h,i,j,k,l,m,n,o,p,q,r,s,t,u,w,y,z,au,aw,ay,az,bu,bw,bz,cu,cw,cy,cz,du,dw)=>((a,b,(),(),(),(),(),c,()),((d,e,f,g,h,i,j,k,l,()),(m,n,o,p,q,r,()),(s,(),(),(),t,u,w,(),(),(),y,z,(),(),(),()),(au,(),(),(),aw,ay,az,(),(),(),bu,bw,(),(),(),()),bz,(cu,cw,(),(),cy,cz,()),du,dw,()))
def ZU8:StD Wk→Zdu:=fun ((_,_,_,_,_,_),((a,b,c,d,e,f,g,h,i,_),(j,k,l,m,n,o,_),(p,_,_,_,q,r,s,_,_,_,t,u,_,_,_,_),(w,_,_,_,y,z,au,_,_,_,aw,ay,_,_,_,_),az,(bu,bw,_,_,bz,cu,_),cw,cy,_))=>(a,b,c,d,e,f,g,h,i,j,k,l,m,n,o,p,q,r,s,t,u,w,y,z,au,aw,ay,az,bu,bw,bz,cu,cw,cy)
def ZiJ:Zdu→StD Wk:=fun (a,b,c,d,e,f,g,h,i,j,k,l,m,n,o,p,q,r,s,t,u,w,y,z,au,aw,ay,az,bu,bw,bz,cu,cw,cy)=>(((),(),(),(),(),()),((a,b,c,d,e,f,g,h,i,()),(j,k,l,m,n,o,()),(p,(),(),(),q,r,s,(),(),(),t,u,(),(),(),()),(w,(),(),(),y,z,au,(),(),(),aw,ay,(),(),(),()),az,(bu,bw,(),(),bz,cu,()),cw,cy,()))
def Zgi:StS:=⟨[(0,.int .i64),(3,.sl tEn),(5,.ptr 0 0),(6,.ptr 1 0),(8,.ptr 2 0),(9,.ptr 3 0),(10,.ptr 4 0),(12,.int .i64)],[(0,.box [.int .i64,.int .i64,.int .i64,.int .i64,.int .i64,.int .i64,.int .i64,.int .i64,.int .i64]),(1,.box [.bool,.sl tI,.sl tI,.sl tI,.int .i64,.int .i64]),(2,.box [.bool,.nil,.nil,.nil,.int .i64,.int .i64,.bool,.nil,.nil,.nil,.int .i64,.int .i64,.nil,.nil,.nil]),(3,.box [.bool,.nil,.nil,.nil,.int .i64,.int .i64,.bool,.nil,.nil,.nil,.int .i64,.int .i64,.nil,.nil,.nil]),(4,.box [.bool,.sl tI,.row 5,.row 6,.int .i64,.int .i64]),(5,.row tI),(6,.row tI)],7⟩
def Wj:StS:=⟨[(5,.ptr 0 0),(6,.ptr 1 0),(8,.ptr 2 0),(9,.ptr 3 0),(10,.ptr 4 0)],[(0,.box [.int .i64,.int .i64,.int .i64,.int .i64,.int .i64,.int .i64,.int .i64,.int .i64,.int .i64]),(1,.box [.bool,.sl tI,.sl tI,.sl tI,.int .i64,.int .i64]),(2,.box [.bool,.nil,.nil,.nil,.int .i64,.int .i64,.bool,.nil,.nil,.nil,.int .i64,.int .i64,.nil,.nil,.nil]),(3,.box [.bool,.nil,.nil,.nil,.int .i64,.int .i64,.bool,.nil,.nil,.nil,.int .i64,.int .i64,.nil,.nil,.nil]),(4,.box [.bool,.sl tI,.row 5,.row 6,.int .i64,.int .i64]),(5,.row tI),(6,.row tI)],7⟩
def ZCF:StD Zgi→Zbt:=fun ((a,b,_,_,_,_,_,c,_),((d,e,f,g,h,i,j,k,l,_),(m,n,o,p,q,r,_),(s,_,_,_,t,u,w,_,_,_,y,z,_,_,_,_),(au,_,_,_,aw,ay,az,_,_,_,bu,bw,_,_,_,_),(bz,cu,_,_,cw,cy,_),cz,du,_))=>(a,b,c,d,e,f,g,h,i,j,k,l,m,n,o,p,q,r,s,t,u,w,y,z,au,aw,ay,az,bu,bw,bz,cu,cw,cy,cz,du)
def ZEp:Zbt→StD Zgi:=fun (a,b,c,d,e,f,g,h,i,j,k,l,m,n,o,p,q,r,s,t,u,w,y,z,au,aw,ay,az,bu,bw,bz,cu,cw,cy,cz,du)=>((a,b,(),(),(),(),(),c,()),((d,e,f,g,h,i,j,k,l,()),(m,n,o,p,q,r,()),(s,(),(),(),t,u,w,(),(),(),y,z,(),(),(),()),(au,(),(),(),aw,ay,az,(),(),(),bu,bw,(),(),(),()),(bz,cu,(),(),cw,cy,()),cz,du,()))
def ZU7:StD Wj→Zdt:=fun ((_,_,_,_,_,_),((a,b,c,d,e,f,g,h,i,_),(j,k,l,m,n,o,_),(p,_,_,_,q,r,s,_,_,_,t,u,_,_,_,_),(w,_,_,_,y,z,au,_,_,_,aw,ay,_,_,_,_),(az,bu,_,_,bw,bz,_),cu,cw,_))=>(a,b,c,d,e,f,g,h,i,j,k,l,m,n,o,p,q,r,s,t,u,w,y,z,au,aw,ay,az,bu,bw,bz,cu,cw)
def ZiI:Zdt→StD Wj:=fun (a,b,c,d,e,f,g,h,i,j,k,l,m,n,o,p,q,r,s,t,u,w,y,z,au,aw,ay,az,bu,bw,bz,cu,cw)=>(((),(),(),(),(),()),((a,b,c,d,e,f,g,h,i,()),(j,k,l,m,n,o,()),(p,(),(),(),q,r,s,(),(),(),t,u,(),(),(),()),(w,(),(),(),y,z,au,(),(),(),aw,ay,(),(),(),()),(az,bu,(),(),bw,bz,()),cu,cw,()))
def Zvu:Nat→Tm→Prog (Nat×Tm):=(varP 0 (fun T h=>(rdS Zgi T h).map ZCF) ZfR (altE 4 Wj ZiI) (varP 0 (fun T h=>(rdS Zgj T h).map ZCG) ZfS (altE 4 Wk ZiJ) (fun _ _=>.fail)))
def ZHV:Lpc:=⟨88,2,108,(fun base T=>.norm base (ZtM 0) T (Zvu base)),by kernel_rfl,by kernel_rfl,(loopU Zo4 [Zm8] 40 1048576 8 (keep:=ZtM) (q:=Zvu) (by kernel_rfl) (Zv (s:=Zgi) (un:=ZEp) (by rfl) (fun _=>rfl) (Zn (s:=Wj) (un:=ZiI) (flat:=ZU7) (by rfl) (fun _=>rfl)) (step:=Zrf) (fun _=>by kernel_rfl) (fun _ _ e=>⟨_,e⟩) (Zm 4 Wj ZiI) (Zv (s:=Zgj) (un:=ZEq) (by rfl) (fun _=>rfl) (Zn (s:=Wk) (un:=ZiJ) (flat:=ZU8) (by rfl) (fun _=>rfl)) (step:=Zrg) (fun _=>by kernel_rfl) (fun _ _ e=>⟨_,e⟩) (Zm 4 Wk ZiJ) (ZB.fail _ _))))⟩
def ZAt:=conP true ZNQ (.dat tO) ZmJ
theorem ZOL:Zf prog 88 ZAt:=Ze (calU Zo4 [Zm8,ZHV] 40 1048576 8 88) true (by rfl) (by rfl) (fun x r e=>(Zk _ _ _ _ _ _ _).trans ((show _=ZmJ x by kernel_rfl).trans e)) (.inl rfl)
def ZRW:List Sh:=[.dat (.int .i64)]
def ZYg (a0:Int):Option I:=some (a0,a0)
def ZLW (x:Int×Unit):Option I:=ZYg x.1
def ZmP:=conP true ZRW (.dat tI) ZLW
theorem Zq2:Zf prog 20 ZmP:=Ze (calU [] [] 40 1048576 8 20) true (by rfl) (by rfl) (fun x r e=>(Zk _ _ _ _ _ _ _).trans ((show _=ZLW x by kernel_rfl).trans e)) (.inl rfl)
def ZG7:List Sh:=[]
def ZMq:Option I:=some (-2147483648,2147483647)
theorem ZTl:evGX (cxU [] [] 40 1048576) keeps 8 84 ZG7 (.dat tI) (():Unit)=ZMq:=by kernel_rfl
def ZXY (x:Unit):Option I:=ZMq
def ZHb:=conP true ZG7 (.dat tI) ZXY
theorem ZTE:Zf prog 84 ZHb:=Ze (calU [] [] 40 1048576 8 84) true (by rfl) (by rfl) (fun x r e=>(Zk _ _ _ _ _ _ _).trans ((ZTl ).trans e)) (.inl rfl)
def ZRR:List Sh:=[.dat tA,.dat tE]
def ZVU:List Con:=[⟨116,ZKj,ZVO⟩,⟨47,Qs,QP⟩,⟨83,ZnA,ZsS⟩]
def ZG9:=conP true ZRR (.dat tO) Zp1
theorem ZTC:Zf prog 85 ZG9:=Ze (calU ZVU [] 40 1048576 8 85) true (by rfl) (by rfl) (fun x r e=>(Zk _ _ _ _ _ _ _).trans ((show _=Zp1 x by kernel_rfl).trans e)) (.inl rfl)
def ZK4:List Sh:=[.dat tA,.dat tE]
def ZNc:List Con:=[⟨119,Zqg,ZxR⟩,⟨122,ZwO,ZLQ⟩]
def ZwN:=conP true ZK4 (.dat tO) Zjj
theorem ZLP:Zf prog 89 ZwN:=Ze (calU ZNc [] 40 1048576 8 89) true (by rfl) (by rfl) (fun x r e=>(Zk _ _ _ _ _ _ _).trans ((show _=Zjj x by kernel_rfl).trans e)) (.inl rfl)
def ZNR:List Sh:=[.dat tA,.dat tE,.dat (.int .i64)]
def ZRa:List Con:=[⟨123,ZyM,ZM8⟩,⟨118,Zlk,Zo2⟩,⟨47,Qs,QP⟩,⟨83,ZnA,ZsS⟩]
def ZAu:=conP true ZNR (.dat tE) ZcA
theorem ZOM:Zf prog 90 ZAu:=Ze (calU ZRa [] 40 1048576 8 90) true (by rfl) (by rfl) (fun x r e=>(Zk _ _ _ _ _ _ _).trans ((show _=ZcA x by kernel_rfl).trans e)) (.inl rfl)
def ZRS:List Sh:=[.dat (.int .i64)]
def ZHa:=conP true ZRS (.dat (.int .i64)) Zny
theorem ZTD:Zf prog 91 ZHa:=Ze (calU [] [] 40 1048576 8 91) true (by rfl) (by rfl) (fun x r e=>(Zk _ _ _ _ _ _ _).trans ((show _=Zny x by kernel_rfl).trans e)) (.inl rfl)
def ZRQ:List Sh:=[.dat tU,.dat (.int .i64),.dat (.int .i64),.dat tE,.dat (.sl tEn)]
def ZVT:List Con:=[⟨20,ZmP,Zq2⟩,⟨83,ZnA,ZsS⟩,⟨84,ZHb,ZTE⟩,⟨85,ZG9,ZTC⟩,⟨86,ZAs,ZOK⟩,⟨88,ZAt,ZOL⟩,⟨89,ZwN,ZLP⟩,⟨90,ZAu,ZOM⟩,⟨91,ZHa,ZTD⟩,⟨66,Zqf,ZxP⟩,⟨118,Zlk,Zo2⟩,⟨47,Qs,QP⟩,⟨19,Kn,YD⟩]
def ZwM:=conP true ZRQ (.dat tO) Zce
theorem ZIv:Zf prog 56 ZwM:=Ze (calU ZVT [] 40 1048576 8 56) true (by rfl) (by rfl) (fun x r e=>(Zk _ _ _ _ _ _ _).trans ((show _=Zce x by kernel_rfl).trans e)) (.inl rfl)
theorem ZSW (x y:I):leqB x (Zg x y)=true:=by
 unfold Zg
 cases a:Zd x<;>cases b:Zd y<;>simp only [Bool.false_eq_true,if_true,if_false]<;>rw [QE]<;>unfold sub <;>
  simp only [Zd,decide_eq_true_eq,decide_eq_false_iff_not] at a b<;>(try simp only [mx,mn,nn])<;>first | omega | ((repeat' split)<;>omega)
def ZQt:List Sh:=[.dat (.sl tI),.dat (.int .i64)]
def ZTX:List Con:=[⟨95,Vk,Za3⟩]
def ZoV:=conP true ZQt (.dat tI) YB
theorem ZuQ:Zf prog 94 ZoV:=Ze (calU ZTX [] 40 1048576 8 94) true (by rfl) (by rfl) (fun x r e=>(Zk _ _ _ _ _ _ _).trans ((show _=YB x by kernel_rfl).trans e)) (.inl rfl)
def ZNL:List Sh:=[.dat (.sl tI),.dat (.sl tI)]
def ZtI:Nat→List Nat:=fun c=>bif c.beq 0 then [0,1,5] else [4]
def ZFe:List Con:=[⟨94,ZoV,ZuQ⟩,⟨66,Zqf,ZxP⟩]
def Zgd:StS:=⟨[(0,.sl tI),(1,.sl tI),(5,.int .i64)],[],0⟩
def Wb:StS:=⟨[(4,.undef)],[],0⟩
def Wc:StS:=⟨[(4,.bool)],[],0⟩
abbrev Hu:=((List I)×(List I)×Int)
def ZCA:StD Zgd→Hu:=fun ((a,b,c,_),_)=>(a,b,c)
def ZEk:Hu→StD Zgd:=fun (a,b,c)=>((a,b,c,()),())
abbrev Jq:=Unit
def ZUZ (d:StD Wb):Jq:=()
def ZiA (x:Jq):StD Wb:=(((),()),())
abbrev Jr:=Bool
def ZU0 (d:StD Wc):Jr:=(d.1.1)
def ZiB (x:Jr):StD Wc:=((x,()),())
def W9 (s0 s1:List I) (s5:Int):Option (((List I)×(List I)×Int)⊕(Unit⊕Bool)):=bif decide (s5<(s0.length:Int)) then bif decide (0≤s5) then Za s0[s5.toNat]? none fun d5=>Za (YB (s1,s5,())) none fun d6=>Za (JX (d5,d6,())) none fun d7=>bif !d7 then some (.inr (.inr false)) else some (.inl (s0,s1,i64.wrap (s5+1))) else none else some (.inr (.inl PUnit.unit))
def Zra:Hu→Option (Hu⊕(Jq⊕Jr)):=fun (a,b,c)=>W9 a b c
def ZfM (x:Hu):Option (Jq⊕Jr):=Zh Zra Zl x
def Zvq:Nat→Tm→Prog (Nat×Tm):=(varP 0 (fun T h=>(rdS Zgd T h).map ZCA) ZfM (fun y=>.alt y (altE 2 Wb ZiA) (altE 1 Wc ZiB)) (fun _ _=>.fail))
def ZHS:Lpc:=⟨59,0,21,(fun base T=>.norm base (ZtI 0) T (Zvq base)),by kernel_rfl,by kernel_rfl,(loopU ZFe [] 40 1048576 8 (keep:=ZtI) (q:=Zvq) (by kernel_rfl) (Zv (s:=Zgd) (un:=ZEk) (by rfl) (fun _=>rfl) (ZW (Zn (s:=Wb) (un:=ZiA) (flat:=ZUZ) (by rfl) (fun _=>rfl)) (Zn (s:=Wc) (un:=ZiB) (flat:=ZU0) (by rfl) (fun _=>rfl))) (step:=Zra) (fun _=>by kernel_rfl) (fun _ _ e=>⟨_,e⟩) (ZV (Zm 2 Wb ZiA) (Zm 1 Wc ZiB)) (ZB.fail _ _)))⟩
def ZmY (a0 a1:List I):Option Bool:=Za (ZfM (a0,a1,0)) none fun d4=>Sum.elim (fun e5=>some true) (fun e5=>some e5) d4
def Zfn (x:((List I)×((List I)×Unit))):Option Bool:=ZmY x.1 x.2.1
def ZAq:=conP true ZNL (.dat .bool) Zfn
theorem ZOI:Zf prog 59 ZAq:=Ze (calU ZFe [ZHS] 40 1048576 8 59) true (by rfl) (by rfl) (fun x r e=>(Zk _ _ _ _ _ _ _).trans ((show _=Zfn x by kernel_rfl).trans e)) (.inl rfl)
def WS (s1 s0:List I) (i:Nat)  (d:I):Option (Unit⊕(Jq⊕Jr)):=
 Za (YB (s1,(i:Int),())) (none) fun d6=>
  Za (JX (d,d6,())) (none) fun d7=>
  bif !d7 then
  some (.inr (.inr false))
 else some (.inl ())
def Zqn (s1 s0:List I):Option (Jq⊕Jr):=
 some (.inl PUnit.unit)
abbrev ZDR (s1 s0:List I) (i:Nat) (s:Unit):Hu:=(s0,s1,(i:Int))
def ZeK (s1 s0:List I) (s:Unit):Option (Jq⊕Jr):=Zp (fun i s d=>WS s1 s0 i  d) (fun s=>Zqn s1 s0 ) 0 s0 s
theorem ZqU (s1 s0:List I) (s:Unit) (hl:s0.length<9223372036854775807):ZfM (s0,s1,0)=ZeK s1 s0 s:=by
 unfold ZfM ZeK
 refine Zs s0 (ZDR s1 s0) _ _ ?_ ?_ s (by unfold Zl;omega)
 ·intro i s d hi hd
  have e1:decide ((i:Int)<(s0.length:Int))=true:=dT0 (by omega)
  have e2:decide (0≤(i:Int))=true:=dT0 (by omega)
  have e3:Int.toNat (i:Int)=i:=tN0 i
  have e4:=Zq hi (Nat.le_of_lt hl)
  show W9 (s0) (s1) ((i:Int))=upd _ (WS s1 s0 i  d)
  unfold W9 WS
  simp only [e1,e2,e3,e4,hd,cond_true,cond_false,Zb,ZC,ZF,ZD,ZI,ZJ,ZE]
 ·intro s
  have e1:decide ((s0.length:Int)<(s0.length:Int))=false:=dF0 (by omega)
  show W9 (s0) (s1) ((s0.length:Int))=_
  unfold W9 Zqn
  rw [e1]
  rfl
def ZQs:List Sh:=[.dat tE,.dat tE]
def ZTW:List Con:=[⟨59,ZAq,ZOI⟩]
def ZoB (a0 a1:E):Option Bool:=bif !a0.1 then some true else bif a1.1 then Za (Zfn (a0.2.1,a1.2.1,())) none fun d3=>bif d3 then Za (Zfn (a0.2.2.1,a1.2.2.1,())) none fun d4=>bif d4 then Za (Zfn (a0.2.2.2.1,a1.2.2.2.1,())) none fun d5=>bif d5 then bif i64.wrap (↑(BitVec.ofInt i64.bits a1.2.2.2.2.1 &&& ~~~BitVec.ofInt i64.bits a0.2.2.2.2.1).toNat:Int)==0 then some (i64.wrap (↑(BitVec.ofInt i64.bits a0.2.2.2.2.2 &&& ~~~BitVec.ofInt i64.bits a1.2.2.2.2.2).toNat:Int)==0) else some false else some false else some false else some false else some false
def YA (x:E×(E×Unit)):Option Bool:=ZoB x.1 x.2.1
def Zuz:=conP true ZQs (.dat .bool) YA
theorem ZE6:Zf prog 29 Zuz:=Ze (calU ZTW [] 40 1048576 8 29) true (by rfl) (by rfl) (fun x r e=>(Zk _ _ _ _ _ _ _).trans ((show _=YA x by kernel_rfl).trans e)) (.inl rfl)
theorem ZLu (a:List I):leR a a:=⟨rfl,fun i x y hx hy=>by rw [hx] at hy;cases hy;exact ZdP x⟩
theorem ZIP {a b:Int} (ha:okB a) (hb:okB b) (s:subB a b):(i64.wrap ((BitVec.ofInt i64.bits a &&& ~~~BitVec.ofInt i64.bits b).toNat:Int)==0)=true:=by
 unfold okB at *
 obtain ⟨r,h1,h2,h3⟩:=ZKY (a:=a.toNat) (b:=b.toNat) (by omega) (by omega)
 rw [show ((a.toNat:Nat):Int)=a by omega,show ((b.toNat:Nat):Int)=b by omega] at h1
 rw [h1]
 have:r=0:=Nat.eq_of_testBit_eq fun i=>by
  rw [h3,Nat.zero_testBit]
  cases q:a.toNat.testBit i
  ·rfl
  ·rw [s i q];rfl
 subst this
 rfl
def ZL5:List Sh:=[.dat (.sl tEn),.dat tEn]
def ZrM:Nat→List Nat:=fun c=>bif c.beq 0 then [0,3,6] else [0,3,6]
def ZBS:List Con:=[⟨61,Zqd,Zzb⟩]
def ZeV:StS:=⟨[(0,.sl tEn),(3,.ptr 0 0),(6,.int .i64)],[(0,.box [.int .i64,.bool,.int .i64,.int .i64,.int .i64,.int .i64])],1⟩
def Vf:StS:=⟨[(0,.sl tEn),(3,.ptr 0 0),(6,.int .i64)],[(0,.box [.int .i64,.bool,.int .i64,.int .i64,.int .i64,.int .i64])],1⟩
def ZAL:StD ZeV→YS:=fun ((a,_,b,_),((c,d,e,f,g,h,_),_))=>(a,b,c,d,e,f,g,h)
def ZCc:YS→StD ZeV:=fun (a,b,c,d,e,f,g,h)=>((a,(),b,()),((c,d,e,f,g,h,()),()))
def ZUv:StD Vf→Q2:=fun ((a,_,b,_),((c,d,e,f,g,h,_),_))=>(a,b,c,d,e,f,g,h)
def ZgW:Q2→StD Vf:=fun (a,b,c,d,e,f,g,h)=>((a,(),b,()),((c,d,e,f,g,h,()),()))
def Zub:Nat→Tm→Prog (Nat×Tm):=(varP 0 (fun T h=>(rdS ZeV T h).map ZAL) YF (altE 2 Vf ZgW) (fun _ _=>.fail))
def ZF4:Lpc:=⟨58,0,36,(fun base T=>.norm base (ZrM 0) T (Zub base)),by kernel_rfl,by kernel_rfl,(loopU ZBS [] 40 1048576 8 (keep:=ZrM) (q:=Zub) (by kernel_rfl) (Zv (s:=ZeV) (un:=ZCc) (by rfl) (fun _=>rfl) (Zn (s:=Vf) (un:=ZgW) (flat:=ZUv) (by rfl) (fun _=>rfl)) (step:=ZpQ) (fun _=>by kernel_rfl) (fun _ _ e=>⟨_,e⟩) (Zm 2 Vf ZgW) (ZB.fail _ _)))⟩
def Zmu:=conP false ZL5 (.tup [.dat (.int .i64),.dat .bool]) Je
theorem Zq1:Zf prog 58 Zmu:=Ze (calU ZBS [ZF4] 40 1048576 8 58) false (by rfl) (by rfl) (fun x r e=>(Zk _ _ _ _ _ _ _).trans ((show _=Je x by kernel_rfl).trans e)) (.inr fun _=>rfl)
theorem Z54 {a b:En} (h:ky a=ky b) (k:vl a=vl b):a=b:=by
 obtain ⟨a1,a2,a3,a4,a5⟩:=a
 obtain ⟨b1,b2,b3,b4,b5⟩:=b
 simp only [ky,vl,Prod.mk.injEq] at h k
 obtain ⟨rfl,rfl,rfl,rfl⟩:=h
 subst k;rfl
theorem ZsG {a:Ky}:¬ ltK a a:=by unfold ltK;omega
def tget (l:List En) (k:Ky):Option I:=(l.find? fun e=>ky e==k).map vl
theorem JT (d:En) (r:List En) (k:Ky):tget (d::r) k=if ky d=k then some (vl d) else tget r k:=by
 unfold tget
 rw [List.find?_cons]
 by_cases h:ky d=k
 ·rw [if_pos h,show (ky d==k)=true from beq_iff_eq.2 h];rfl
 ·rw [if_neg h,show (ky d==k)=false from beq_eq_false_iff_ne.2 h]
theorem Z2b (k:Ky):tget [] k=none:=rfl
theorem ZIQ {l:List En} {k:Ky} (h:∀ d∈l,ky d≠k):tget l k=none:=by
 unfold tget
 rw [List.find?_eq_none.2 fun d hd=>by rw [beq_iff_eq];exact h d hd];rfl
theorem ZsU {l:List En} {k:Ky} {v:I} (h:tget l k=some v):∃ d∈l,ky d=k∧vl d=v:=by
 unfold tget at h
 obtain ⟨d,h1,h2⟩:=Option.map_eq_some_iff.1 h
 exact ⟨d,List.mem_of_find?_eq_some h1,beq_iff_eq.1 (List.find?_some (p:=fun e=>ky e==k) h1),h2⟩
theorem ZLA {l:List En} (hs:srt l) {d:En} (hd:d∈l):tget l (ky d)=some (vl d):=by
 induction l with
 | nil=>cases hd
 | cons x r ih=>
  rw [JT]
  have h:=List.pairwise_cons.1 hs
  rcases List.mem_cons.1 hd with rfl | hd
  ·rw [if_pos rfl]
  ·rw [if_neg (fun e=>ZsG (e ▸ h.1 d hd)),ih h.2 hd]
theorem Zwu:∀ {a b:List En},srt a→srt b→(∀ k,tget a k=tget b k)→a=b
 | [],[],_,_,_=>rfl
 | [],y::s,_,hb,h=>by have:=h (ky y);rw [JT,if_pos rfl] at this;cases this
 | x::r,[],ha,_,h=>by have:=h (ky x);rw [JT,if_pos rfl] at this;cases this
 | x::r,y::s,ha,hb,h=>by
  have ka:=List.pairwise_cons.1 ha
  have kb:=List.pairwise_cons.1 hb
  have hx:=h (ky x)
  have hy:=h (ky y)
  rw [JT,if_pos rfl,JT] at hx
  rw [JT,JT,if_pos rfl] at hy
  have hk:ky x=ky y:=by
   by_cases e:ky x=ky y
   ·exact e
   ·exfalso
    rw [if_neg (Ne.symm e)] at hx
    rw [if_neg e] at hy
    obtain ⟨d,hd,h1,_⟩:=ZsU hx.symm
    obtain ⟨c,hc,h2,_⟩:=ZsU hy
    have k1:=kb.1 d hd
    have k2:=ka.1 c hc
    rw [h1] at k1;rw [h2] at k2
    exact ZsG (ZtW k1 k2)
  rw [if_pos hk.symm] at hx
  have exy:x=y:=Z54 hk (Option.some.inj hx)
  subst exy
  rw [Zwu ka.2 kb.2 fun k=>?_]
  by_cases e:ky x=k
  ·subst e
   rw [ZIQ fun d hd q=>ZsG (q ▸ ka.1 d hd),ZIQ fun d hd q=>ZsG (q ▸ kb.1 d hd)]
  ·have:=h k
   rwa [JT,JT,if_neg e,if_neg e] at this
def optV (f:I→I→I) (o:Option I) (v:I):I:=match o with | some u=>f u v | none=>v
theorem ZXs {f:I→I→I} {e:En}:∀ {l:List En},srt l→∀ k,tget (pinT f e l) k=if ky e=k then some (optV f (tget l k) (vl e)) else tget l k
 | [],_,k=>by unfold pinT;rw [JT,Z2b];rfl
 | d::r,hs,k=>by
  have h:=List.pairwise_cons.1 hs
  unfold pinT
  split
  ·rename_i hc
   rw [JT,ZXs h.2,JT]
   by_cases hd:ky d=k
   ·rw [if_pos hd,if_pos hd,if_neg (fun e2=>ZsG (by rw [ZtZ,hd,e2] at hc;exact hc))]
   ·rw [if_neg hd,if_neg hd]
  ·rename_i hc
   split
   ·rename_i hz
    rw [ZtY] at hz
    rw [JT,JT,ZZU,hz]
    by_cases he:ky e=k
    ·rw [if_pos he,if_pos he,if_pos he];rfl
    ·rw [if_neg he,if_neg he,if_neg he]
   ·rename_i hz
    rw [ZtZ] at hc
    rw [ZtY] at hz
    have hed:=ZXd hc hz
    rw [JT]
    by_cases he:ky e=k
    ·rw [if_pos he,if_pos he,ZIQ]
     ·rfl
     ·intro x hx q
      rcases List.mem_cons.1 hx with rfl | hx
      ·exact hz (q.trans he.symm)
      ·exact ZsG (by have:=ZtW hed (h.1 x hx);rwa [q,he] at this)
    ·rw [if_neg he,if_neg he]
def ZQG:List Sh:=[.dat (.sl tEn),.dat (.sl tEn),.dat (.sl (.int .i64))]
def Zvg:Nat→List Nat:=fun c=>bif c.beq 0 then [5,7,12,13,14] else [7]
def ZIN:List Con:=[⟨106,Zih,ZoH⟩,⟨153,Km,YC⟩,⟨154,ZwP,ZIw⟩,⟨155,ZgA,ZnW⟩,⟨109,ZoU,ZuP⟩]
def Zh8:StS:=⟨[(5,.ptr 0 0),(7,.row 1),(12,.sl tEn),(13,.int .i64),(14,.int .i64)],[(0,.box [.sl (.int .i64)]),(1,.row tEn)],2⟩
def ZaR:StS:=⟨[(7,.row 0)],[(0,.row tEn)],1⟩
abbrev VL:=((List En)×Int×Int×(List Int)×(List En))
def ZFU:StD Zh8→VL:=fun ((_,_,a,b,c,_),((d,_),e,_))=>(a,b,c,d,e)
def ZG0:VL→StD Zh8:=fun (a,b,c,d,e)=>(((),(),a,b,c,()),((d,()),e,()))
abbrev Kd:=(List En)
def ZWZ (d:StD ZaR):Kd:=(d.2.1)
def Zkd (x:Kd):StD ZaR:=(((),()),(x,()))
def ZbP (s12:List En) (s13 s14:Int) (b0:List Int) (b1:List En):Option (((List En)×Int×Int×(List Int)×(List En))⊕(List En)):=bif decide (s14<s13) then bif decide (0≤s14) then Za s12[s14.toNat]? none fun d7=>bif decide (d7.2.2.2.2.1>d7.2.2.2.2.2) then some (.inl (s12,s13,i64.wrap (s14+1),b0,b1)) else Za (Zhc (b1,d7,())) none fun d8=>bif !d8.2.1 then bif decide (0≤d8.1∧d8.1≤(b1.length:Int)∧(b1.length+2)*48≤lim) then some (.inl (s12,s13,i64.wrap (s14+1),b0,List.take (Int.toNat d8.1) b1++d7::List.drop (Int.toNat d8.1) b1)) else none else bif decide (0≤d8.1) then Za b1[Int.toNat d8.1]? none fun d9=>Za b1[Int.toNat d8.1]? none fun d10=>Za (Ze8 (d10.2.2.2.2,d7.2.2.2.2,b0,())) none fun d11=>bif decide (0≤d8.1) then Za b1[Int.toNat d8.1]? none fun d12=>Za b1[Int.toNat d8.1]? none fun d13=>some (.inl (s12,s13,i64.wrap (s14+1),b0,b1.set (Int.toNat d8.1) (d13.1,d13.2.1,d13.2.2.1,d13.2.2.2.1,d11))) else none else none else none else some (.inr b1)
def Zsb:VL→Option (VL⊕Kd):=fun (a,b,c,d,e)=>ZbP a b c d e
def Zhr (x:VL):Option Kd:=Zh Zsb Zl x
def ZxF:Nat→Tm→Prog (Nat×Tm):=(varP 0 (fun T h=>(rdS Zh8 T h).map ZFU) Zhr (altE 2 ZaR Zkd) (fun _ _=>.fail))
def ZJJ:Lpc:=⟨74,0,24,(fun base T=>.norm base (Zvg 0) T (ZxF base)),by kernel_rfl,by kernel_rfl,(loopU ZIN [] 40 1048576 8 (keep:=Zvg) (q:=ZxF) (by kernel_rfl) (Zv (s:=Zh8) (un:=ZG0) (by rfl) (fun _=>rfl) (Zn (s:=ZaR) (un:=Zkd) (flat:=ZWZ) (by rfl) (fun _=>rfl)) (step:=Zsb) (fun _=>by kernel_rfl) (fun _ _ e=>⟨_,e⟩) (Zm 2 ZaR Zkd) (ZB.fail _ _)))⟩
def ZzR (a0 a1:List En) (a2:List Int):Option (List En):=bif decide (((List.length (α:=I) [])+a0.length+1)*48≤lim) then Za (Zhr (a1,(a1.length:Int),0,a2,[]++a0)) none fun d5=>some d5 else none
def Zs4 (x:((List En)×((List En)×((List Int)×Unit)))):Option (List En):=ZzR x.1 x.2.1 x.2.2.1
def ZEU:=conR false ZQG tEn Zs4
theorem ZQ2:Zf prog 74 ZEU:=ZhA (calU ZIN [ZJJ] 40 1048576 8 74) false (by rfl) (fun x r e=>(Zpp _ _ _ _ _ _ _).trans ((show _=Zs4 x by kernel_rfl).trans e)) (.inr (by rfl))
def ZbA (b0:List Int) (s12:List En) (i:Nat) (b1:List En) (d:En):Option ((List En)⊕Kd):=
 bif decide (d.2.2.2.2.1>d.2.2.2.2.2) then
  some (.inl (b1))
 else Za (Zhc (b1,d,())) (none) fun d8=>
  bif !d8.2.1 then
  bif decide (0≤d8.1∧d8.1≤(↑b1.length:Int)∧(b1.length+2)*48≤lim) then
  some (.inl (List.take (Int.toNat d8.1) b1++d::List.drop (Int.toNat d8.1) b1))
 else none
 else bif decide (0≤d8.1) then
  Za b1[Int.toNat d8.1]? (none) fun d9=>
  Za b1[Int.toNat d8.1]? (none) fun d10=>
  Za (Ze8 (d10.2.2.2.2,d.2.2.2.2,b0,())) (none) fun d11=>
  bif decide (0≤d8.1) then
  Za b1[Int.toNat d8.1]? (none) fun d12=>
  Za b1[Int.toNat d8.1]? (none) fun d13=>
  some (.inl (b1.set (Int.toNat d8.1) (d13.1,d13.2.1,d13.2.2.1,d13.2.2.2.1,d11)))
 else none
 else none
def ZrG (b0:List Int) (s12 b1:List En):Option Kd:=
 some b1
abbrev ZGv (b0:List Int) (s12:List En) (i:Nat) (s:List En):VL:=(s12,(s12.length:Int),(i:Int),b0,s)
def Zl8 (b0:List Int) (s12 s:List En):Option Kd:=Zp (fun i s d=>ZbA b0 s12 i s d) (fun s=>ZrG b0 s12 s) 0 s12 s
theorem ZGi (b0:List Int) (s12 s:List En) (hl:s12.length<9223372036854775807):Zhr (s12,(s12.length:Int),0,b0,s)=Zl8 b0 s12 s:=by
 unfold Zhr Zl8
 refine Zs s12 (ZGv b0 s12) _ _ ?_ ?_ s (by unfold Zl;omega)
 ·intro i s d hi hd
  have e1:decide ((i:Int)<(s12.length:Int))=true:=dT0 (by omega)
  have e2:decide (0≤(i:Int))=true:=dT0 (by omega)
  have e3:Int.toNat (i:Int)=i:=tN0 i
  have e4:=Zq hi (Nat.le_of_lt hl)
  show ZbP (s12) ((s12.length:Int)) ((i:Int)) (b0) (s)=upd _ (ZbA b0 s12 i s d)
  unfold ZbP ZbA
  simp only [e1,e2,e3,e4,hd,cond_true,cond_false,Zb,ZC,ZF,ZD,ZI,ZJ,ZE]
 ·intro s
  have e1:decide ((s12.length:Int)<(s12.length:Int))=false:=dF0 (by omega)
  show ZbP (s12) ((s12.length:Int)) ((s12.length:Int)) (b0) (s)=_
  unfold ZbP ZrG
  rw [e1]
  rfl
def ZR3:List Sh:=[.dat (.sl tEn),.dat (.sl tEn)]
def ZV5:List Con:=[⟨81,Zs8,ZAa⟩]
def ZC5 (a0 a1:List En):Option (List En):=Za (Zhb (a0,a1,())) none fun d3=>some d3
def ZvW (x:((List En)×((List En)×Unit))):Option (List En):=ZC5 x.1 x.2.1
def ZHi:=conR false ZR3 tEn ZvW
theorem ZTL:Zf prog 72 ZHi:=ZhA (calU ZV5 [] 40 1048576 8 72) false (by rfl) (fun x r e=>(Zpp _ _ _ _ _ _ _).trans ((show _=ZvW x by kernel_rfl).trans e)) (.inr (by rfl))
def ZQv:List Sh:=[.dat (.sl tEn),.dat (.sl tEn)]
def Zvb:Nat→List Nat:=fun c=>bif c.beq 0 then [0,1,5] else [4]
def ZIJ:List Con:=[⟨58,Zmu,Zq1⟩,⟨66,Zqf,ZxP⟩]
def ZhY:StS:=⟨[(0,.sl tEn),(1,.sl tEn),(5,.int .i64)],[],0⟩
def ZaG:StS:=⟨[(4,.undef)],[],0⟩
def ZaH:StS:=⟨[(4,.bool)],[],0⟩
abbrev VH:=((List En)×(List En)×Int)
def ZFK:StD ZhY→VH:=fun ((a,b,c,_),_)=>(a,b,c)
def ZGQ:VH→StD ZhY:=fun (a,b,c)=>((a,b,c,()),())
abbrev J8:=Unit
def ZWO (d:StD ZaG):J8:=()
def Zj2 (x:J8):StD ZaG:=(((),()),())
abbrev J9:=Bool
def ZWP (d:StD ZaH):J9:=(d.1.1)
def Zj3 (x:J9):StD ZaH:=((x,()),())
def ZbL (s0 s1:List En) (s5:Int):Option (((List En)×(List En)×Int)⊕(Unit⊕Bool)):=bif decide (s5<(s0.length:Int)) then bif decide (0≤s5) then Za s0[s5.toNat]? none fun d5=>Za (Je (s1,d5,())) none fun d6=>bif !d6.2.1 then some (.inr (.inr false)) else bif decide (0≤s5) then Za s0[s5.toNat]? none fun d7=>bif decide (0≤d6.1) then Za s1[Int.toNat d6.1]? none fun d8=>Za (JX (d7.2.2.2.2,d8.2.2.2.2,())) none fun d9=>bif !d9 then some (.inr (.inr false)) else some (.inl (s0,s1,i64.wrap (s5+1))) else none else none else none else some (.inr (.inl PUnit.unit))
def Zr6:VH→Option (VH⊕(J8⊕J9)):=fun (a,b,c)=>ZbL a b c
def Zhl (x:VH):Option (J8⊕J9):=Zh Zr6 Zl x
def Zxw:Nat→Tm→Prog (Nat×Tm):=(varP 0 (fun T h=>(rdS ZhY T h).map ZFK) Zhl (fun y=>.alt y (altE 2 ZaG Zj2) (altE 1 ZaH Zj3)) (fun _ _=>.fail))
def ZJF:Lpc:=⟨41,0,39,(fun base T=>.norm base (Zvb 0) T (Zxw base)),by kernel_rfl,by kernel_rfl,(loopU ZIJ [] 40 1048576 8 (keep:=Zvb) (q:=Zxw) (by kernel_rfl) (Zv (s:=ZhY) (un:=ZGQ) (by rfl) (fun _=>rfl) (ZW (Zn (s:=ZaG) (un:=Zj2) (flat:=ZWO) (by rfl) (fun _=>rfl)) (Zn (s:=ZaH) (un:=Zj3) (flat:=ZWP) (by rfl) (fun _=>rfl))) (step:=Zr6) (fun _=>by kernel_rfl) (fun _ _ e=>⟨_,e⟩) (ZV (Zm 2 ZaG Zj2) (Zm 1 ZaH Zj3)) (ZB.fail _ _)))⟩
def Ztc (a0 a1:List En):Option Bool:=Za (Zhl (a0,a1,0)) none fun d4=>Sum.elim (fun e5=>some true) (fun e5=>some e5) d4
def Zs1 (x:((List En)×((List En)×Unit))):Option Bool:=Ztc x.1 x.2.1
def ZEP:=conP false ZQv (.dat .bool) Zs1
theorem ZQX:Zf prog 41 ZEP:=Ze (calU ZIJ [ZJF] 40 1048576 8 41) false (by rfl) (by rfl) (fun x r e=>(Zk _ _ _ _ _ _ _).trans ((show _=Zs1 x by kernel_rfl).trans e)) (.inr fun _=>rfl)
def HG (s1 s0:List En) (i:Nat)  (d:En):Option (Unit⊕(J8⊕J9)):=
 Za (Je (s1,d,())) (none) fun d6=>
  bif !d6.2.1 then
  some (.inr (.inr false))
 else bif decide (0≤d6.1) then
  Za s1[Int.toNat d6.1]? (none) fun d8=>
  Za (JX (d.2.2.2.2,d8.2.2.2.2,())) (none) fun d9=>
  bif !d9 then
  some (.inr (.inr false))
 else some (.inl ())
 else none
def ZlN (s1 s0:List En):Option (J8⊕J9):=
 some (.inl PUnit.unit)
abbrev ZGr (s1 s0:List En) (i:Nat) (s:Unit):VH:=(s0,s1,(i:Int))
def Zl4 (s1 s0:List En) (s:Unit):Option (J8⊕J9):=Zp (fun i s d=>HG s1 s0 i  d) (fun s=>ZlN s1 s0 ) 0 s0 s
theorem ZGe (s1 s0:List En) (s:Unit) (hl:s0.length<9223372036854775807):Zhl (s0,s1,0)=Zl4 s1 s0 s:=by
 unfold Zhl Zl4
 refine Zs s0 (ZGr s1 s0) _ _ ?_ ?_ s (by unfold Zl;omega)
 ·intro i s d hi hd
  have e1:decide ((i:Int)<(s0.length:Int))=true:=dT0 (by omega)
  have e2:decide (0≤(i:Int))=true:=dT0 (by omega)
  have e3:Int.toNat (i:Int)=i:=tN0 i
  have e4:=Zq hi (Nat.le_of_lt hl)
  show ZbL (s0) (s1) ((i:Int))=upd _ (HG s1 s0 i  d)
  unfold ZbL HG
  simp only [e1,e2,e3,e4,hd,cond_true,cond_false,Zb,ZC,ZF,ZD,ZI,ZJ,ZE]
 ·intro s
  have e1:decide ((s0.length:Int)<(s0.length:Int))=false:=dF0 (by omega)
  show ZbL (s0) (s1) ((s0.length:Int))=_
  unfold ZbL ZlN
  rw [e1]
  rfl
def Zzr:List Sh:=[.dat (.sl tEn),.dat (.sl tEn)]
def Zln:Nat→List Nat:=fun c=>bif c.beq 0 then [0,1,12,13] else [4]
def Hm:StS:=⟨[(0,.sl tEn),(1,.sl tEn),(12,.int .i64),(13,.int .i64)],[],0⟩
def Q5:StS:=⟨[(4,.undef)],[],0⟩
def Q6:StS:=⟨[(4,.bool)],[],0⟩
abbrev QC:=((List En)×(List En)×Int×Int)
def Zsu:StD Hm→QC:=fun ((a,b,c,d,_),_)=>(a,b,c,d)
def ZsW:QC→StD Hm:=fun (a,b,c,d)=>((a,b,c,d,()),())
abbrev Z1:=Unit
def ZMj (d:StD Q5):Z1:=()
def Zap (x:Z1):StD Q5:=(((),()),())
abbrev Z2:=Bool
def ZMk (d:StD Q6):Z2:=(d.1.1)
def Zaq (x:Z2):StD Q6:=((x,()),())
def JI (s0 s1:List En) (s12 s13:Int):Option (((List En)×(List En)×Int×Int)⊕(Unit⊕Bool)):=bif decide (s13<s12) then bif decide (0≤s13) then Za s0[s13.toNat]? none fun d6=>bif decide (0≤s13) then Za s1[s13.toNat]? none fun d7=>bif !(d6.1==d7.1&&(d6.2.1==d7.2.1&&(d6.2.2.1==d7.2.2.1&&(d6.2.2.2.1==d7.2.2.2.1&&(d6.2.2.2.2.1==d7.2.2.2.2.1&&d6.2.2.2.2.2==d7.2.2.2.2.2))))) then some (.inr (.inr false)) else some (.inl (s0,s1,s12,i64.wrap (s13+1))) else none else none else some (.inr (.inl PUnit.unit))
def ZjL:QC→Option (QC⊕(Z1⊕Z2)):=fun (a,b,c,d)=>JI a b c d
def Hi (x:QC):Option (Z1⊕Z2):=Zh ZjL Zl x
def Zmz:Nat→Tm→Prog (Nat×Tm):=(varP 0 (fun T h=>(rdS Hm T h).map Zsu) Hi (fun y=>.alt y (altE 2 Q5 Zap) (altE 1 Q6 Zaq)) (fun _ _=>.fail))
def ZuJ:Lpc:=⟨75,0,26,(fun base T=>.norm base (Zln 0) T (Zmz base)),by kernel_rfl,by kernel_rfl,(loopU [] [] 40 1048576 8 (keep:=Zln) (q:=Zmz) (by kernel_rfl) (Zv (s:=Hm) (un:=ZsW) (by rfl) (fun _=>rfl) (ZW (Zn (s:=Q5) (un:=Zap) (flat:=ZMj) (by rfl) (fun _=>rfl)) (Zn (s:=Q6) (un:=Zaq) (flat:=ZMk) (by rfl) (fun _=>rfl))) (step:=ZjL) (fun _=>by kernel_rfl) (fun _ _ e=>⟨_,e⟩) (ZV (Zm 2 Q5 Zap) (Zm 1 Q6 Zaq)) (ZB.fail _ _)))⟩
def ZkF (a0 a1:List En):Option Bool:=bif (a0.length:Int) !=(a1.length:Int) then some false else Za (Hi (a0,a1,(a0.length:Int),0)) none fun d4=>Sum.elim (fun e5=>some true) (fun e5=>some e5) d4
def Zd8 (x:((List En)×((List En)×Unit))):Option Bool:=ZkF x.1 x.2.1
def Zox:=conP true Zzr (.dat .bool) Zd8
theorem Zz9:Zf prog 75 Zox:=Ze (calU [] [ZuJ] 40 1048576 8 75) true (by rfl) (by rfl) (fun x r e=>(Zk _ _ _ _ _ _ _).trans ((show _=Zd8 x by kernel_rfl).trans e)) (.inl rfl)
def ZR4:List Sh:=[.dat (.sl tEn),.dat (.sl tEn)]
def ZV6:List Con:=[⟨75,Zox,Zz9⟩]
def ZC6 (a0 a1:List En):Option Bool:=Za (Zd8 (a0,a1,())) none fun d3=>some d3
def Zp6 (x:((List En)×((List En)×Unit))):Option Bool:=ZC6 x.1 x.2.1
def ZHj:=conP false ZR4 (.dat .bool) Zp6
theorem ZTM:Zf prog 45 ZHj:=Ze (calU ZV6 [] 40 1048576 8 45) false (by rfl) (by rfl) (fun x r e=>(Zk _ _ _ _ _ _ _).trans ((show _=Zp6 x by kernel_rfl).trans e)) (.inr fun _=>rfl)
def YW (s1 s0:List En) (i:Nat)  (d:En):Option (Unit⊕(Z1⊕Z2)):=
 Za s1[i]? (none) fun d7=>
  bif !(d.1==d7.1&&(d.2.1==d7.2.1&&(d.2.2.1==d7.2.2.1&&(d.2.2.2.1==d7.2.2.2.1&&(d.2.2.2.2.1==d7.2.2.2.2.1&&d.2.2.2.2.2==d7.2.2.2.2.2))))) then
  some (.inr (.inr false))
 else some (.inl ())
def Zjt (s1 s0:List En):Option (Z1⊕Z2):=
 some (.inl PUnit.unit)
abbrev ZsP (s1 s0:List En) (i:Nat) (s:Unit):QC:=(s0,s1,(s0.length:Int),(i:Int))
def ZjH (s1 s0:List En) (s:Unit):Option (Z1⊕Z2):=Zp (fun i s d=>YW s1 s0 i  d) (fun s=>Zjt s1 s0 ) 0 s0 s
theorem ZsN (s1 s0:List En) (s:Unit) (hl:s0.length<9223372036854775807):Hi (s0,s1,(s0.length:Int),0)=ZjH s1 s0 s:=by
 unfold Hi ZjH
 refine Zs s0 (ZsP s1 s0) _ _ ?_ ?_ s (by unfold Zl;omega)
 ·intro i s d hi hd
  have e1:decide ((i:Int)<(s0.length:Int))=true:=dT0 (by omega)
  have e2:decide (0≤(i:Int))=true:=dT0 (by omega)
  have e3:Int.toNat (i:Int)=i:=tN0 i
  have e4:=Zq hi (Nat.le_of_lt hl)
  show JI (s0) (s1) ((s0.length:Int)) ((i:Int))=upd _ (YW s1 s0 i  d)
  unfold JI YW
  simp only [e1,e2,e3,e4,hd,cond_true,cond_false,Zb,ZC,ZF,ZD,ZI,ZJ,ZE]
 ·intro s
  have e1:decide ((s0.length:Int)<(s0.length:Int))=false:=dF0 (by omega)
  show JI (s0) (s1) ((s0.length:Int)) ((s0.length:Int))=_
  unfold JI Zjt
  rw [e1]
  rfl
abbrev WP:=((List En)×(List En)×(List Int)×Int×(List En))
abbrev Zci:=(List En)
def K7 (s0 s1:List En) (s2:List Int) (s8:Int) (b0:List En):Option (((List En)×(List En)×(List Int)×Int×(List En))⊕(List En)):=bif decide (s8<(b0.length:Int)) then bif decide (0≤s8) then Za b0[s8.toNat]? none fun d7=>Za b0[s8.toNat]? none fun d8=>Za (Je (s0,d8,())) none fun d9=>bif decide (0≤s8) then Za b0[s8.toNat]? none fun d10=>Za b0[s8.toNat]? none fun d11=>Za (Je (s1,d11,())) none fun d12=>bif d9.2.1 then bif d12.2.1 then bif decide (0≤d9.1) then Za s0[Int.toNat d9.1]? none fun d13=>bif decide (0≤d12.1) then Za s1[Int.toNat d12.1]? none fun d14=>Za (Zfq (d13.2.2.2.2,d14.2.2.2.2,s2,())) none fun d15=>bif decide (0≤s8) then Za b0[s8.toNat]? none fun d16=>Za b0[s8.toNat]? none fun d17=>some (.inl (s0,s1,s2,i64.wrap (s8+1),b0.set s8.toNat (d17.1,d17.2.1,d17.2.2.1,d17.2.2.2.1,d15))) else none else none else none else some (.inl (s0,s1,s2,i64.wrap (s8+1),b0)) else some (.inl (s0,s1,s2,i64.wrap (s8+1),b0)) else none else none else some (.inr b0)
def ZjK:WP→Option (WP⊕Zci):=fun (a,b,c,d,e)=>K7 a b c d e
def Zkt (x:WP):Option Zci:=Zh ZjK Zl x
def ZoZ (a0 a1:List En) (a2:List Int):Option (List En):=Za (Kx (a0,a1,())) none fun d5=>Za (Zkt (a0,a1,a2,0,d5)) none fun d6=>some d6
def ZoQ (x:((List En)×((List En)×((List Int)×Unit)))):Option (List En):=ZoZ x.1 x.2.1 x.2.2.1
theorem ZYr (a b:List En) (hs:srt a) (hn:a.length+b.length≤1000000000):ZC5 a b=some (addT Zg a b):=by
 unfold ZC5 Zhb
 simp only [ZIe a b hs hn,Zb]
theorem Z2l (st:List Int) (hst:st.length<9223372036854775807) (L:List En) (j:Nat) (s:List En) (d:En) (hs:srt s) (hn:s.length≤1000000000):ZbA st L j s d=some (.inl (stpT (widF st) s d)):=by
 unfold ZbA stpT
 rw [show decide (d.2.2.2.2.1>d.2.2.2.2.2)=Zd (vl d) from rfl]
 cases hE:Zd (vl d)
 case true=>rfl
 simp only [cond_false,Zhc,ZMJ s d hs (by omega),Zb,Bool.false_eq_true,if_false]
 cases hf:fndT d s
 ·simp only [Bool.not_false,cond_true,ZW7 hn (ZIj d s),tN0]
  rw [ZI9 _ _ _ hf]
 ·obtain ⟨x,hx,hk⟩:=Ztv d s hf
  simp only [Bool.not_true,cond_false,cond_true,dT0 (show (0:Int)≤(posT d s:Int) by omega),tN0,hx,Zb,Ze8,ZKw _ _ _ hst]
  rw [ZJa _ _ _ x hf hx]
  rfl
theorem ZVC (l es:List En) (st:List Int) (hst:st.length<9223372036854775807) (hs:srt l) (hn:l.length+es.length≤1000000000):ZzR l es st=some (addT (widF st) l es):=by
 unfold ZzR
 simp only [List.nil_append,List.length_nil,Nat.zero_add]
 rw [show decide ((l.length+1)*48≤lim)=true from dT0 (by unfold lim;omega),ZGi st es l (by omega)]
 unfold Zl8
 rw [ZhF (g:=stpT (widF st)) (fun s r=>srt s∧s.length+r.length≤1000000000) (fun j s d r h=>⟨Z2l st hst es j s d h.1 (by have:=h.2;rw [List.length_cons] at this;omega),ZD9 h.1,by
  have:=h.2;have:=ZD8 (widF st) s d;rw [List.length_cons] at *;omega⟩) es 0 l ⟨hs,hn⟩]
 rfl
def ZmM (b:List En) (e:En):Bool:=fndT e b&&(b[posT e b]?).elim false fun d=>leqB (vl e) (vl d)
def leqTB (a b:List En):Bool:=a.all (ZmM b)
theorem ZPO {α Y:Type} {f:Nat→Unit→α→Option (Unit⊕Y)} {fin:Unit→Option Y} {p:α→Bool} {out:Nat→Y} (h:∀ j d,f j () d=bif p d then some (.inl ()) else some (.inr (out j))) :
  ∀ (r:List α) (j:Nat),∃ k:Nat,Zp f fin j r ()=bif r.all p then fin () else some (out k)
 | [],j=>⟨j,rfl⟩
 | d::r,j=>by
  have hd:=h j d
  rw [List.all_cons]
  cases hp:p d
  ·rw [hp] at hd
   exact ⟨j,by rw [Zp,hd];rfl⟩
  ·rw [hp] at hd
   obtain ⟨k,hk⟩:=ZPO h r (j+1)
   exact ⟨k,by rw [Qq hd,hk];rfl⟩
theorem Z1g {b:List En} {e:En} (h:fndT e b=true):∃ d,b[posT e b]? = some d∧ky d=ky e∧ZmM b e=leqB (vl e) (vl d):=by
 obtain ⟨d,hd,hk⟩:=Ztv e b h
 exact ⟨d,hd,hk,by unfold ZmM;rw [h,hd];rfl⟩
theorem ZVz (a b:List En) (ha:a.length<2305843009213693952) (hb:b.length<2305843009213693952):Ztc a b=some (leqTB a b):=by
 have h:∀ j d,HG b a j d=bif ZmM b d then some (.inl ()) else some (.inr (.inr false)):=fun j d=>by
  unfold HG
  simp only [Je,ZDp b d (by omega),Zb]
  cases hf:fndT d b
  ·rw [show ZmM b d=false by unfold ZmM;rw [hf];rfl];rfl
  ·obtain ⟨x,hx,hk,hB⟩:=Z1g hf
   simp only [Bool.not_true,cond_false,dT0 (show (0:Int)≤(posT d b:Int) by omega),cond_true,tN0,hx,Zb,JX,ZkI]
   rw [hB]
   show (bif !leqB (vl d) (vl x) then _ else _)=_
   cases leqB (vl d) (vl x)<;>rfl
 obtain ⟨k,hk⟩:=ZPO (f:=fun i _ d=>HG b a i d) (fin:=fun _=>ZlN b a) (p:=ZmM b) (out:=fun _=>.inr false) h a 0
 unfold Ztc
 rw [ZGe b a () (by omega)]
 unfold Zl4
 rw [hk]
 unfold leqTB
 cases a.all (ZmM b)<;>rfl
def eqE (d e:En):Bool:=d.1==e.1&&(d.2.1==e.2.1&&(d.2.2.1==e.2.2.1&&(d.2.2.2.1==e.2.2.2.1&&(d.2.2.2.2.1==e.2.2.2.2.1&&d.2.2.2.2.2==e.2.2.2.2.2))))
theorem ZWq {d e:En}:eqE d e=true↔d=e:=by
 obtain ⟨d1,d2,d3,d4,d5,d6⟩:=d
 obtain ⟨e1,e2,e3,e4,e5,e6⟩:=e
 simp only [eqE,Bool.and_eq_true,beq_iff_eq,Prod.mk.injEq]
theorem ZXC {f:Nat→Unit→En→Option (Unit⊕(Unit⊕Bool))} {b:List En} (h:∀ j d,f j () d=Za b[j]? none fun e=>bif !(eqE d e) then some (.inr (.inr false)) else some (.inl ())) :
  ∀ (r:List En) (j:Nat),j+r.length=b.length→Zp f (fun _=>some (.inl ())) j r ()=bif decide (r=b.drop j) then some (.inl ()) else some (.inr false)
 | [],j,hj=>by
  rw [List.drop_eq_nil_of_le (by simp only [List.length_nil] at hj;omega)];rfl
 | d::r,j,hj=>by
  simp only [List.length_cons] at hj
  have hlt:j<b.length:=by omega
  have hd:=h j d
  rw [List.getElem?_eq_getElem hlt] at hd
  simp only [Zb] at hd
  rw [List.drop_eq_getElem_cons hlt]
  generalize b[j]=x at hd
  cases he:eqE d x
  ·rw [he] at hd
   have:¬ (d::r=x::b.drop (j+1)):=fun q=>by
    have:=ZWq.2 (List.cons.inj q).1
    rw [he] at this;cases this
   rw [dF0 this,Zp,hd];rfl
  ·rw [he] at hd
   obtain rfl:=ZWq.1 he
   rw [Qq hd,ZXC h r (j+1) (by omega)]
   congr 1
   rw [decide_eq_decide]
   exact ⟨fun q=>by rw [q],fun q=>(List.cons.inj q).2⟩
theorem ZZ7 {g:Option Bool} {a b:List En} {f:Nat→Unit→En→Option (Unit⊕(Unit⊕Bool))} (h:∀ j d,f j () d=Za b[j]? none fun e=>bif !(eqE d e) then some (.inr (.inr false)) else some (.inl ()))
  (hg:g=bif (a.length:Int) !=(b.length:Int) then some false else Za (Zp f (fun _=>some (.inl ())) 0 a ()) none fun d4=>Sum.elim (fun _=>some true) (fun e5=>some e5) d4):g=some (decide (a=b)):=by
 rw [hg]
 by_cases hl:a.length=b.length
 ·rw [show ((a.length:Int) !=(b.length:Int))=false by simp [hl],ZXC h a 0 (by omega),List.drop_zero]
  cases decide (a=b)<;>rfl
 ·rw [show ((a.length:Int) !=(b.length:Int))=true by simp;omega,dF0 (fun e=>hl (by rw [e]))];rfl
theorem ZYs (a b:List En) (ha:a.length<2305843009213693952):ZC6 a b=some (decide (a=b)):=by
 unfold ZC6 Zd8
 rw [ZZ7 (g:=ZkF a b) (f:=fun i _ d=>YW b a i d) (fun j d=>rfl) (by
  unfold ZkF
  rw [ZsN b a () (by omega)];rfl)]
 rfl
theorem Zxg (a b:List En) (ha:a.length<2305843009213693952):Zm0 a b=some (decide (a=b)):=
 ZZ7 (f:=fun i _ d=>WV b a i d) (fun j d=>rfl) (by
  unfold Zm0
  rw [ZqW b a () (by omega)];rfl)
def setW (a b:List En) (st:List Int) (e:En):En:=match tget a (ky e),tget b (ky e) with
 | some u,some v=>setV e (rwidV u v st)
 | _,_=>e
theorem Zsv {l:List En} (hs:srt l) (e:En):(fndT e l=true→∃ d,l[posT e l]? = some d∧tget l (ky e)=some (vl d))∧(fndT e l=false→tget l (ky e)=none):=by
 refine ⟨fun h=>?_,fun h=>?_⟩
 ·obtain ⟨d,hd,hk⟩:=Ztv e l h
  exact ⟨d,hd,by rw [← hk];exact ZLA hs (mG0 hd)⟩
 ·cases hg:tget l (ky e) with
  | none=>rfl
  | some v=>
   exfalso
   obtain ⟨d,hd,hk,hv⟩:=ZsU hg
   obtain ⟨q,hq,rfl⟩:=List.mem_iff_getElem.1 hd
   have h0:ordI l[q] e=0:=ZtY.2 hk
   have h1:=fun k=>ZDu e l q _ k (List.getElem?_eq_getElem hq)
   by_cases h2:q<posT e l
   ·have:=h1 h2;omega
   ·have h3:posT e l<l.length:=by omega
    have h4:=ZSz e l h _ (List.getElem?_eq_getElem h3)
    have h5:=ZIi hs (posT e l) _ (Nat.le_refl _) (List.getElem?_eq_getElem h3)
    by_cases h6:q=posT e l
    ·subst h6;exact h4 h0
    ·have:=List.pairwise_iff_getElem.1 hs (posT e l) q h3 hq (by omega)
     rw [ZtZ] at h5
     rw [ZtY] at h4
     rw [hk] at this
     exact h5 this
theorem ZQL (a b:List En) (st:List Int) (hst:st.length<9223372036854775807) (ha:srt a) (hb:srt b) (hn:a.length+b.length≤1000000000):ZoZ a b st=some ((addT rJoin a b).map (setW a b st)):=by
 unfold ZoZ
 simp only [Kx,Zne a b hn,Zb]
 have hl:=Zlz rJoin b a
 generalize addT rJoin a b=l at *
 have key:=Zps (step:=fun x=>K7 x.1 x.2.1 x.2.2.1 x.2.2.2.1 x.2.2.2.2) (fun i r=>(a,b,st,(i:Int),r)) (fun _=>setW a b st) (fun r=>r) l (fun i d r hi hr hd=>by
   have hj:i<l.length:=(List.getElem?_eq_some_iff.1 hi).1
   have e1:decide ((i:Int)<(r.length:Int))=true:=dT0 (by omega)
   have e2:decide (0≤(i:Int))=true:=dT0 (by omega)
   have e3:Int.toNat (i:Int)=i:=tN0 i
   have e4:i64.wrap ((i:Int)+1)=((i+1:Nat):Int):=by rw [wr (by omega)];omega
   show K7 a b st (i:Int) r=_
   unfold K7
   simp only [e1,e2,e3,e4,hd,cond_true,Zb,Je,ZDp _ _ (show a.length<9223372036854775807 by omega),ZDp _ _ (show b.length<9223372036854775807 by omega)]
   have noset:r.set i d=r:=by
    refine List.ext_getElem? fun q=>?_
    by_cases hq:i=q
    ·subst hq;rw [List.getElem?_set_self (by omega),hd]
    ·rw [List.getElem?_set_ne hq]
   unfold setW
   cases hfa:fndT d a
   ·rw [(Zsv ha d).2 hfa]
    simp only [cond_false,noset]
   ·obtain ⟨x,hx,hgx⟩:=(Zsv ha d).1 hfa
    rw [hgx]
    cases hfb:fndT d b
    ·rw [(Zsv hb d).2 hfb]
     simp only [cond_false,cond_true,noset]
    ·obtain ⟨y,hy,hgy⟩:=(Zsv hb d).1 hfb
     rw [hgy]
     simp only [cond_true,dT0 (show (0:Int)≤(posT d a:Int) by omega),dT0 (show (0:Int)≤(posT d b:Int) by omega),tN0,hx,hy,Zb,Zfq,ZIb _ _ _ hst]
     rfl)
  (fun r hr=>by
   show K7 a b st (l.length:Int) r=_
   unfold K7
   rw [hr,dF0 (by omega)]
   rfl) (by omega)
 unfold Zkt
 rw [show Zh ZjK Zl (a,b,st,0,l)=_ from key]
 simp only [Zb]
 congr 1
 refine List.ext_getElem? fun q=>?_
 rw [List.getElem?_mapIdx,List.getElem?_map]
theorem Z3e (st:List Int):okF (widF st):=fun u v hu eu hv ev=>by
 obtain ⟨h1,h2,h3,_⟩:=ZEG hu hv st
 refine ⟨h3,?_⟩
 exact (ZdW h1 eu).2
def oneO (f:I→I→I) (k:Ky) (o:Option I) (e:En):Option I:=if Zd (vl e) then o else if ky e=k then some (optV f o (vl e)) else o
theorem Z3x {f:I→I→I} {l:List En} (hs:srt l) (e:En) (k:Ky):tget (stpT f l e) k=oneO f k (tget l k) e:=by
 unfold stpT oneO
 split
 ·rfl
 ·exact ZXs hs k
theorem ZNy {f:I→I→I} (k:Ky):∀ {es l:List En},srt l→tget (addT f l es) k=es.foldl (oneO f k) (tget l k)
 | [],l,_=>rfl
 | e::r,l,hs=>by
  show tget (addT f (stpT f l e) r) k=r.foldl (oneO f k) (oneO f k (tget l k) e)
  rw [ZNy k (es:=r) (ZD9 hs),Z3x hs]
theorem ZPr {f:I→I→I} {k:Ky}:∀ {es:List En} {o:Option I},(∀ e∈es,ky e≠k)→es.foldl (oneO f k) o=o
 | [],_,_=>rfl
 | e::r,o,h=>by
  rw [List.foldl_cons]
  have:oneO f k o e=o:=by
   unfold oneO
   rw [if_neg (h e (List.mem_cons_self ..))]
   split<;>rfl
  rw [this]
  exact ZPr fun x hx=>h x (List.mem_cons_of_mem _ hx)
def bothO (f:I→I→I) (o p:Option I):Option I:=match p with | none=>o | some v=>some (optV f o v)
theorem Zg2 {f:I→I→I} (k:Ky):∀ {b a:List En},srt b→(∀ x∈b,entOK x)→srt a→tget (addT f a b) k=bothO f (tget a k) (tget b k)
 | [],a,_,_,_=>rfl
 | d::r,a,hb,hk,ha=>by
  have h:=List.pairwise_cons.1 hb
  have kd:=hk d (List.mem_cons_self ..)
  rw [ZNy k ha,List.foldl_cons,JT]
  by_cases e:ky d=k
  ·rw [if_pos e,ZPr (fun x hx q=>ZsG (by have:=h.1 x hx;rwa [q,e] at this))]
   unfold oneO
   rw [if_neg (by rw [show Zd (vl d)=false from kd.n];decide),if_pos e];rfl
  ·rw [if_neg e]
   have:oneO f k (tget a k) d=tget a k:=by unfold oneO;rw [if_neg e];split<;>rfl
   rw [this,← ZNy k ha]
   exact Zg2 k h.2 (fun x hx=>hk x (List.mem_cons_of_mem _ hx)) ha
theorem Z2X {g:En→En} (hg:∀ e,ky (g e)=ky e) {l:List En} (h:srt l):srt (l.map g):=by
 unfold srt
 rw [List.pairwise_map]
 exact h.imp fun h=>by rw [hg,hg];exact h
theorem ZXe {g:En→En} (hg:∀ e,ky (g e)=ky e) (k:Ky):∀ {l:List En},tget (l.map g) k=(l.find? fun e=>ky e==k).map fun e=>vl (g e)
 | []=>rfl
 | d::r=>by
  rw [List.map_cons,JT,hg,List.find?_cons]
  by_cases e:ky d=k
  ·rw [if_pos e,show (ky d==k)=true from beq_iff_eq.2 e];rfl
  ·rw [if_neg e,show (ky d==k)=false from beq_eq_false_iff_ne.2 e];exact ZXe hg k
theorem ZUc {a b:List En} {st:List Int} (ha:tabOK a) (hb:tabOK b):(addT rJoin a b).map (setW a b st)=addT (widF st) a b:=by
 have hk:∀ e,ky (setW a b st e)=ky e:=fun e=>by unfold setW;split<;>rfl
 refine Zwu (Z2X hk (ZlA ha.srt)) (ZlA ha.srt) fun k=>?_
 rw [ZXe hk,Zg2 k hb.srt hb.e ha.srt]
 have hj:tget (addT rJoin a b) k=bothO rJoin (tget a k) (tget b k):=Zg2 k hb.srt hb.e ha.srt
 unfold tget at hj ⊢
 cases hf:(addT rJoin a b).find? fun e=>ky e==k with
 | none=>
  rw [hf] at hj
  cases hB:b.find? fun e=>ky e==k with
  | none=>rw [hB] at hj;exact hj
  | some y=>rw [hB] at hj;cases hj
 | some z=>
  rw [hf] at hj
  have hz:ky z=k:=beq_iff_eq.1 (List.find?_some (p:=fun e=>ky e==k) hf)
  simp only [Option.map_some] at hj ⊢
  unfold setW
  rw [hz]
  unfold tget
  cases hB:b.find? fun e=>ky e==k with
  | none=>
   rw [hB] at hj
   cases hA:a.find? fun e=>ky e==k with
   | none=>rw [hA] at hj;cases hj
   | some x=>rw [hA] at hj;exact hj
  | some y=>
   rw [hB] at hj
   cases hA:a.find? fun e=>ky e==k with
   | none=>rw [hA] at hj;exact hj
   | some x=>
    simp only [Option.map_some,bothO,optV]
    congr 1
    show rwidV (vl x) (vl y) st=widV (vl x) (vl y) st
    exact (Z0N (ha.e x (List.mem_of_find?_eq_some hA)).v (hb.e y (List.mem_of_find?_eq_some hB)).v st).symm
theorem ZO3 {b:List En} (hb:srt b) (e:En):ZmM b e=(tget b (ky e)).elim false fun v=>leqB (vl e) v:=by
 cases hf:fndT e b
 ·rw [(Zsv hb e).2 hf];unfold ZmM;rw [hf];rfl
 ·obtain ⟨d,hd,hg⟩:=(Zsv hb e).1 hf
  rw [hg];unfold ZmM;rw [hf,hd];rfl
theorem ZS2 {a b:List En} (hb:srt b):leqTB a b=true↔∀ e∈a,∃ v,tget b (ky e)=some v∧leqB (vl e) v=true:=by
 unfold leqTB
 rw [List.all_eq_true]
 refine ⟨fun h e he=>?_,fun h e he=>?_⟩
 ·have:=h e he
  rw [ZO3 hb] at this
  cases hg:tget b (ky e) with
  | none=>rw [hg] at this;cases this
  | some v=>rw [hg] at this;exact ⟨v,rfl,this⟩
 ·obtain ⟨v,hv,hl⟩:=h e he
  rw [ZO3 hb,hv];exact hl
def leG (a b:List En):Prop:=∀ k u,tget a k=some u→∃ v,tget b k=some v∧leqB u v=true
theorem Z2V {a b:List En} (ha:srt a) (hb:srt b) (h:leG a b):leqTB a b=true:=
 (ZS2 hb).2 fun e he=>h (ky e) (vl e) (ZLA ha he)
theorem Z1A (a:List En):leG a a:=fun k u h=>⟨u,h,Zpe u⟩
theorem Zy1 {a b c:List En} (h:leG a b) (h':leG b c):leG a c:=fun k u hu=>by
 obtain ⟨v,hv,l⟩:=h k u hu
 obtain ⟨w,hw,l'⟩:=h' k v hv
 exact ⟨w,hw,KH l l'⟩
def upF (f:I→I→I):Prop:=∀ u v,isB u=true→isB v=true→leqB u (f u v)=true∧leqB v (f u v)=true
theorem Zns:upF Zg:=fun u v _ _=>⟨ZHI u v,ZXa u v⟩
theorem ZCf (st:List Int):upF (widF st):=fun u v hu hv=>⟨(ZEG hu hv st).1,(ZEG hu hv st).2.1⟩
theorem ZqB {l:List En} (h:∀ x∈l,entOK x) {k:Ky} {u:I} (hu:tget l k=some u):isB u=true∧Zd u=false:=by
 obtain ⟨d,hd,_,rfl⟩:=ZsU hu
 exact ⟨(h d hd).v,(h d hd).n⟩
theorem Z4V {f:I→I→I} (hf:upF f) {a b:List En} (ha:tabOK a) (hb:tabOK b):leG a (addT f a b):=fun k u hu=>by
 rw [Zg2 k hb.srt hb.e ha.srt,hu]
 cases hv:tget b k with
 | none=>exact ⟨u,rfl,Zpe u⟩
 | some v=>exact ⟨_,rfl,(hf u v (ZqB ha.e hu).1 (ZqB hb.e hv).1).1⟩
theorem Z2f {f:I→I→I} (hf:upF f) {a b:List En} (ha:tabOK a) (hb:tabOK b):leG b (addT f a b):=fun k v hv=>by
 rw [Zg2 k hb.srt hb.e ha.srt,hv]
 cases hu:tget a k with
 | none=>exact ⟨v,rfl,Zpe v⟩
 | some u=>exact ⟨_,rfl,(hf u v (ZqB ha.e hu).1 (ZqB hb.e hv).1).2⟩
theorem tabOK.a {l:List En} (h:tabOK l):∀ x∈l,okA x:=fun x hx=>(h.e x hx).a
section
open Go.Proofs
variable {u:U} {t:Int} {a b:E}
theorem Z13 {a b:E} (ha:a.1=true) (hb:b.1=true) (h:sameE a b=true):a=b:=by
 unfold sameE at h
 rw [ha,hb] at h
 simp only [Bool.and_true,cond_true,Bool.and_eq_true,decide_eq_true_eq,beq_iff_eq] at h
 obtain ⟨on,V,G,A,must,may⟩:=a
 obtain ⟨on',V',G',A',must',may'⟩:=b
 cases ha;cases hb
 obtain ⟨rfl,rfl,rfl,rfl,rfl⟩:=h
 rfl
end
def ZL0:List Sh:=[.dat tU,.dat (.int .i64)]
def ZlU:Nat→List Nat:=fun c=>bif c.beq 0 then [1,2,4,5,6] else [2,4,5]
def ZlV:Nat→List Nat:=fun c=>bif c.beq 0 then [2,4,5,7] else [2,4,5]
def ZlW:Nat→List Nat:=fun c=>bif c.beq 0 then [2,4,5,8] else [4,5]
def Zfj:List Con:=[⟨20,ZmP,Zq2⟩]
def ZeP:StS:=⟨[(1,.int .i64),(2,.ptr 0 0),(4,.ptr 1 0),(5,.ptr 2 0),(6,.int .i64)],[(0,.box [.sl (.int .i64),.sl (.int .i64),.int .i64,.sl tC]),(1,.box [.bool,.nil,.nil,.nil,.int .i64,.int .i64]),(2,.box [.bool,.row 3,.nil,.nil,.int .i64,.int .i64]),(3,.row tI)],4⟩
def H8:StS:=⟨[(2,.ptr 0 0),(4,.ptr 1 0),(5,.ptr 2 0)],[(0,.box [.sl (.int .i64),.sl (.int .i64),.int .i64,.sl tC]),(1,.box [.bool,.nil,.nil,.nil,.int .i64,.int .i64]),(2,.box [.bool,.row 3,.nil,.nil,.int .i64,.int .i64]),(3,.row tI)],4⟩
def ZAF:StD ZeP→YO:=fun ((a,_,_,_,b,_),((c,d,e,f,_),(g,_,_,_,h,i,_),(j,_,_,_,k,l,_),m,_))=>(a,b,c,d,e,f,g,h,i,j,k,l,m)
def ZB6:YO→StD ZeP:=fun (a,b,c,d,e,f,g,h,i,j,k,l,m)=>((a,(),(),(),b,()),((c,d,e,f,()),(g,(),(),(),h,i,()),(j,(),(),(),k,l,()),m,()))
def ZUo:StD H8→Zch:=fun ((_,_,_,_),((a,b,c,d,_),(e,_,_,_,f,g,_),(h,_,_,_,i,j,_),k,_))=>(a,b,c,d,e,f,g,h,i,j,k)
def ZgP:Zch→StD H8:=fun (a,b,c,d,e,f,g,h,i,j,k)=>(((),(),(),()),((a,b,c,d,()),(e,(),(),(),f,g,()),(h,(),(),(),i,j,()),k,()))
def Zt5:Nat→Tm→Prog (Nat×Tm):=(varP 0 (fun T h=>(rdS ZeP T h).map ZAF) Zec (altE 2 H8 ZgP) (fun _ _=>.fail))
def ZbB:Lpc:=⟨55,0,68,(ownP [(2,1,tI)] [] (ZlU 0) (fun base T=>.norm base (ZlU 0) T (Zt5 base))),by kernel_rfl,by kernel_rfl,(Ja (loopU Zfj [] 40 1048576 8 (keep:=ZlU) (q:=Zt5) (by kernel_rfl) (Zv (s:=ZeP) (un:=ZB6) (by rfl) (fun _=>rfl) (Zn (s:=H8) (un:=ZgP) (flat:=ZUo) (by rfl) (fun _=>rfl)) (step:=ZpM) (fun _=>by kernel_rfl) (fun _ _ e=>⟨_,e⟩) (Zm 2 H8 ZgP) (ZB.fail _ _))))⟩
abbrev ZYY:=cxU Zfj [ZbB] 40 1048576
def ZeQ:StS:=⟨[(2,.ptr 0 0),(4,.ptr 1 0),(5,.ptr 2 0),(7,.int .i64)],[(0,.box [.sl (.int .i64),.sl (.int .i64),.int .i64,.sl tC]),(1,.box [.bool,.nil,.nil,.nil,.int .i64,.int .i64]),(2,.box [.bool,.row 3,.row 4,.nil,.int .i64,.int .i64]),(3,.row tI),(4,.row tI)],5⟩
def H9:StS:=⟨[(2,.ptr 0 0),(4,.ptr 1 0),(5,.ptr 2 0)],[(0,.box [.sl (.int .i64),.sl (.int .i64),.int .i64,.sl tC]),(1,.box [.bool,.nil,.nil,.nil,.int .i64,.int .i64]),(2,.box [.bool,.row 3,.row 4,.nil,.int .i64,.int .i64]),(3,.row tI),(4,.row tI)],5⟩
def ZAG:StD ZeQ→YP:=fun ((_,_,_,a,_),((b,c,d,e,_),(f,_,_,_,g,h,_),(i,_,_,_,j,k,_),l,m,_))=>(a,b,c,d,e,f,g,h,i,j,k,l,m)
def ZB7:YP→StD ZeQ:=fun (a,b,c,d,e,f,g,h,i,j,k,l,m)=>(((),(),(),a,()),((b,c,d,e,()),(f,(),(),(),g,h,()),(i,(),(),(),j,k,()),l,m,()))
def ZUp:StD H9→QZ:=fun ((_,_,_,_),((a,b,c,d,_),(e,_,_,_,f,g,_),(h,_,_,_,i,j,_),k,l,_))=>(a,b,c,d,e,f,g,h,i,j,k,l)
def ZgQ:QZ→StD H9:=fun (a,b,c,d,e,f,g,h,i,j,k,l)=>(((),(),(),()),((a,b,c,d,()),(e,(),(),(),f,g,()),(h,(),(),(),i,j,()),k,l,()))
def Zt6:Nat→Tm→Prog (Nat×Tm):=(varP 0 (fun T h=>(rdS ZeQ T h).map ZAG) Zed (altE 4 H9 ZgQ) (fun _ _=>.fail))
def ZlX:Lpc:=⟨55,2,68,(ownP [(2,2,tI)] [] (ZlV 0) (fun base T=>.norm base (ZlV 0) T (Zt6 base))),by kernel_rfl,by kernel_rfl,(Ja (loopU Zfj [ZbB] 40 1048576 8 (keep:=ZlV) (q:=Zt6) (by kernel_rfl) (Zv (s:=ZeQ) (un:=ZB7) (by rfl) (fun _=>rfl) (Zn (s:=H9) (un:=ZgQ) (flat:=ZUp) (by rfl) (fun _=>rfl)) (step:=ZpN) (fun _=>by kernel_rfl) (fun _ _ e=>⟨_,e⟩) (Zm 4 H9 ZgQ) (ZB.fail _ _))))⟩
abbrev ZYZ:=cxU Zfj [ZbB,ZlX] 40 1048576
def ZeR:StS:=⟨[(2,.ptr 0 0),(4,.ptr 1 0),(5,.ptr 2 0),(8,.int .i64)],[(0,.box [.sl (.int .i64),.sl (.int .i64),.int .i64,.sl tC]),(1,.box [.bool,.nil,.nil,.nil,.int .i64,.int .i64]),(2,.box [.bool,.row 3,.row 4,.row 5,.int .i64,.int .i64]),(3,.row tI),(4,.row tI),(5,.row tI)],6⟩
def Va:StS:=⟨[(4,.ptr 0 0),(5,.ptr 1 0)],[(0,.box [.bool,.nil,.nil,.nil,.int .i64,.int .i64]),(1,.box [.bool,.row 2,.row 3,.row 4,.int .i64,.int .i64]),(2,.row tI),(3,.row tI),(4,.row tI)],5⟩
def ZAH:StD ZeR→YQ:=fun ((_,_,_,a,_),((b,c,d,e,_),(f,_,_,_,g,h,_),(i,_,_,_,j,k,_),l,m,n,_))=>(a,b,c,d,e,f,g,h,i,j,k,l,m,n)
def ZB8:YQ→StD ZeR:=fun (a,b,c,d,e,f,g,h,i,j,k,l,m,n)=>(((),(),(),a,()),((b,c,d,e,()),(f,(),(),(),g,h,()),(i,(),(),(),j,k,()),l,m,n,()))
def ZUq:StD Va→Q0:=fun ((_,_,_),((a,_,_,_,b,c,_),(d,_,_,_,e,f,_),g,h,i,_))=>(a,b,c,d,e,f,g,h,i)
def ZgR:Q0→StD Va:=fun (a,b,c,d,e,f,g,h,i)=>(((),(),()),((a,(),(),(),b,c,()),(d,(),(),(),e,f,()),g,h,i,()))
def Zt7:Nat→Tm→Prog (Nat×Tm):=(varP 0 (fun T h=>(rdS ZeR T h).map ZAH) Zee (altE 6 Va ZgR) (fun _ _=>.fail))
def ZF0:Lpc:=⟨55,4,68,(ownP [(2,3,tI)] [] (ZlW 0) (fun base T=>.norm base (ZlW 0) T (Zt7 base))),by kernel_rfl,by kernel_rfl,(Ja (loopU Zfj [ZbB,ZlX] 40 1048576 8 (keep:=ZlW) (q:=Zt7) (by kernel_rfl) (Zv (s:=ZeR) (un:=ZB8) (by rfl) (fun _=>rfl) (Zn (s:=Va) (un:=ZgR) (flat:=ZUq) (by rfl) (fun _=>rfl)) (step:=ZpO) (fun _=>by kernel_rfl) (fun _ _ e=>⟨_,e⟩) (Zm 6 Va ZgR) (ZB.fail _ _))))⟩
def Zqc:=conP true ZL0 (.dat tE) Zg0
theorem Zza:Zf prog 55 Zqc:=Ze (calU Zfj [ZbB,ZlX,ZF0] 40 1048576 8 55) true (by rfl) (by rfl) (fun x r e=>(Zk _ _ _ _ _ _ _).trans ((show _=Zg0 x by kernel_rfl).trans e)) (.inl rfl)
def Zid (x:(U×(Int×((List En)×Unit)))):Option Re:=ZlB x.1 x.2.1 x.2.2.1
section
open Go.Proofs
theorem ZH1 {a b c:List I} (h:leR a b) (k:leR b c):leR a c:=by
 refine ⟨h.1.trans k.1,fun i x z hx hz=>?_⟩
 have hi:i<a.length:=(List.getElem?_eq_some_iff.1 hx).1
 have hy:b[i]? = some (b[i]'(by rw [← h.1];exact hi)):=List.getElem?_eq_getElem _
 exact KH (h.2 i x _ hx hy) (k.2 i _ z hy hz)
theorem ZNh {a b c:Int} (h:subB a b) (k:subB b c):subB a c:=fun i q=>k i (h i q)
theorem ZP3 (a:Int):subB a a:=fun i q=>q
theorem ZLt {x:E} (h:x.1=true):leE x x:=⟨h,ZLu _,ZLu _,ZLu _,ZP3 _,ZP3 _⟩
theorem ZPz {x y z:E} (h:leE x y) (k:leE y z):leE x z:=⟨k.on,ZH1 h.v k.v,ZH1 h.g k.g,ZH1 h.a k.a,ZNh k.must h.must,ZNh h.may k.may⟩
theorem Zxb (x:E):leO x x:=fun h=>ZLt h
theorem Zpx {x y z:E} (h:leO x y) (k:leO y z):leO x z:=fun q=>ZPz (h q) (k (h q).on)
theorem Zsd {x y:Int} (hx:okB x) (hy:okB y):andI x y=((x.toNat &&& y.toNat:Nat):Int):=by
 unfold okB at *
 have h:=ZCg (a:=x.toNat) (b:=y.toNat) (by omega) (by omega)
 rw [show ((x.toNat:Nat):Int)=x by omega,show ((y.toNat:Nat):Int)=y by omega] at h
 exact h
theorem ZI6 {x y:Int} (hx:okB x) (hy:okB y):orI x y=((x.toNat ||| y.toNat:Nat):Int):=by
 unfold okB at *
 have h:=ZTg (a:=x.toNat) (b:=y.toNat) (by omega) (by omega)
 rw [show ((x.toNat:Nat):Int)=x by omega,show ((y.toNat:Nat):Int)=y by omega] at h
 exact h
theorem Z5U {x y:Int} (hx:okB x) (hy:okB y):subB (andI x y) x:=fun i q=>by
 rw [Zsd hx hy,tN0,Nat.testBit_and,Bool.and_eq_true] at q
 exact q.1
theorem Z2n {x y:Int} (hx:okB x) (hy:okB y):subB (andI x y) y:=fun i q=>by
 rw [Zsd hx hy,tN0,Nat.testBit_and,Bool.and_eq_true] at q
 exact q.2
theorem Z6U {x y:Int} (hx:okB x) (hy:okB y):subB x (orI x y):=fun i q=>by
 rw [ZI6 hx hy,tN0,Nat.testBit_or,q,Bool.true_or]
theorem Z6V {x y:Int} (hx:okB x) (hy:okB y):subB y (orI x y):=fun i q=>by
 rw [ZI6 hx hy,tN0,Nat.testBit_or,q,Bool.or_true]
theorem ZUe {F:I→I→I} {a b:List I} {i:Nat} {z:I} (h:(zipI F a b)[i]? = some z):∃ x,a[i]? = some x∧z=F x (rowAt b i):=by
 unfold zipI at h
 rw [List.getElem?_mapIdx] at h
 cases e:a[i]? with
 | none=>rw [e] at h;cases h
 | some x=>rw [e] at h;exact ⟨x,rfl,(Option.some.inj h).symm⟩
theorem ZBm {b:List I} {i:Nat} {y:I} (h:b[i]? = some y):rowAt b i=y:=by unfold rowAt;rw [h];rfl
theorem ZOX {F:I→I→I} (hF:upF F) {a b:List I} (hl:a.length=b.length) (ha:∀ x∈a,isB x=true) (hb:∀ x∈b,isB x=true):leR a (zipI F a b):=by
 refine ⟨(Zww F a b).symm,fun i x z hx hz=>?_⟩
 obtain ⟨x',h1,rfl⟩:=ZUe hz
 rw [hx] at h1;cases h1
 have hi:i<b.length:=by rw [← hl];exact (List.getElem?_eq_some_iff.1 hx).1
 rw [ZBm (List.getElem?_eq_getElem hi)]
 exact (hF x b[i] (ha x (mG0 hx)) (hb _ (List.getElem_mem hi))).1
theorem ZOY {F:I→I→I} (hF:upF F) {a b:List I} (hl:a.length=b.length) (ha:∀ x∈a,isB x=true) (hb:∀ x∈b,isB x=true):leR b (zipI F a b):=by
 refine ⟨by rw [Zww,hl],fun i y z hy hz=>?_⟩
 obtain ⟨x,h1,rfl⟩:=ZUe hz
 rw [ZBm hy]
 exact (hF x y (ha x (mG0 h1)) (hb y (mG0 hy))).2
def upL (es es':List E):Prop:=∀ (i:Nat) (x:E),es[i]? = some x→∃ y,es'[i]? = some y∧leO x y
theorem ZEF (es:List E):upL es es:=fun i x h=>⟨x,h,Zxb x⟩
theorem Zzo {a b c:List E} (h:upL a b) (k:upL b c):upL a c:=fun i x hx=>by
 obtain ⟨y,hy,q⟩:=h i x hx
 obtain ⟨z,hz,w⟩:=k i y hy
 exact ⟨z,hz,Zpx q w⟩
theorem ZXD {a b:E} (ha:a.1=true) (h:sameE a b=true):a=b:=by
 cases hb:b.1
 ·unfold sameE at h
  rw [ha,hb] at h
  have h':(true==false)=true:=h
  exact absurd h' (by decide)
 ·exact Z13 ha hb h
section
variable {u:U} {t:Int} {l:List En} {st:List Int} {c:C} {a b:E}
theorem ZN6 (ha:envOK u t a) (hb:envOK u t b):a.2.1.length=b.2.1.length∧a.2.2.1.length=b.2.2.1.length∧a.2.2.2.1.length=b.2.2.2.1.length:=by
 obtain ⟨c,hc,h1⟩:=ha.c
 obtain ⟨c',hc',h2⟩:=hb.c
 rw [hc] at hc';cases hc'
 have:=ha.g
 have:=hb.g
 have:=ha.a
 have:=hb.a
 exact ⟨by omega,by omega,by omega⟩
theorem Z26 {F:I→I→I} (hF:upF F) (ha:envOK u t a) (hb:envOK u t b):leE a (mrg F a b):=by
 obtain ⟨l1,l2,l3⟩:=ZN6 ha hb
 exact ⟨rfl,ZOX hF l1 (fun x k=>(envV ha x k).1) fun x k=>(envV hb x k).1,ZOX hF l2 (fun x k=>(envG ha x k).1) fun x k=>(envG hb x k).1,ZOX hF l3 (fun x k=>(envA ha x k).1) fun x k=>(envA hb x k).1,Z5U ha.must hb.must,Z6U ha.may hb.may⟩
theorem Z27 {F:I→I→I} (hF:upF F) (ha:envOK u t a) (hb:envOK u t b):leE b (mrg F a b):=by
 obtain ⟨l1,l2,l3⟩:=ZN6 ha hb
 exact ⟨rfl,ZOY hF l1 (fun x k=>(envV ha x k).1) fun x k=>(envV hb x k).1,ZOY hF l2 (fun x k=>(envG ha x k).1) fun x k=>(envG hb x k).1,ZOY hF l3 (fun x k=>(envA ha x k).1) fun x k=>(envA hb x k).1,Z2n ha.must hb.must,Z6V ha.may hb.may⟩
theorem ZHJ {F:I→I→I} (hF:upF F) (ha1:a.1=true) (ha:envOK u t a) (hb:b.1=true→envOK u t b):leE a (eJoin F a b):=by
 unfold eJoin
 rw [ha1,cond_true]
 cases hb1:b.1
 ·exact ZLt ha1
 ·exact Z26 hF ha (hb hb1)
theorem ZHK {F:I→I→I} (hF:upF F) (ha:a.1=true→envOK u t a) (hb1:b.1=true) (hb:envOK u t b):leE b (eJoin F a b):=by
 unfold eJoin
 rw [hb1]
 cases ha1:a.1
 ·exact ZLt hb1
 ·exact Z27 hF (ha ha1) hb
theorem Z0b {fr to:Int} {old e:E} {n:Int} (ho:okE u t old) (he1:e.1=true) (he:envOK u t e):leE e (nxtV st fr to old e n)∧leO old (nxtV st fr to old e n):=by
 have k1:=ZlD (F:=Zg) (a:=old) he1
 have k2:=ZmQ Zxh ho.env (fun _=>he) k1
 have u1:=ZHK Zns ho.env he1 he
 have u2:leO old (eJoin Zg old e):=fun h=>ZHJ Zns h (ho.env h) fun _=>he
 unfold nxtV
 split
 ·exact ⟨ZPz u1 (ZHK (ZCf st) ho.env k1 k2),fun h=>ZHJ (ZCf st) h (ho.env h) fun _=>k2⟩
 ·exact ⟨u1,u2⟩
theorem ZMd {fr to:Int} {e:E} {es:List E} {ns:List Int} (hes:∀ x∈es,okE u t x) (he:e.1=true→envOK u t e) (h1:to.toNat<es.length) (hl:ns.length=es.length) (h:(comeV st fr to e es ns).1=false) :
  comeV st fr to e es ns=(false,es,ns)∧∃ y,es[to.toNat]? = some y∧leO e y:=by
 have g1:es[to.toNat]? = some es[to.toNat]:=List.getElem?_eq_getElem h1
 have g2:ns[to.toNat]? = some (ns[to.toNat]'(by omega)):=List.getElem?_eq_getElem _
 have ho:=hes _ (List.getElem_mem h1)
 generalize es[to.toNat]=old at g1 ho
 generalize ns[to.toNat]'(by omega)=n at g2
 unfold comeV at h ⊢
 cases he1:e.1
 ·exact ⟨by simp only [he1,g1,g2],old,g1,fun k=>by rw [he1] at k;cases k⟩
 ·simp only [he1,g1,g2] at h ⊢
  cases q:sameE (nxtV st fr to old e n) old
  ·rw [q] at h;cases h
  ·refine ⟨rfl,old,rfl,fun _=>?_⟩
   have hn:=Z0a (st:=st) (fr:=fr) (to:=to) (n:=n) ho he1 (he he1)
   have k:=(Z0b (st:=st) (fr:=fr) (to:=to) (n:=n) ho he1 (he he1)).1
   rw [ZXD hn.1 q] at k
   exact k
theorem ZWl {fr to:Int} {e:E} {es:List E} {ns:List Int} (hes:∀ x∈es,okE u t x) (he:e.1=true→envOK u t e):upL es (comeV st fr to e es ns).2.1:=by
 intro i x hx
 have keep:∃ y,es[i]? = some y∧leO x y:=⟨x,hx,Zxb x⟩
 unfold comeV
 split
 ·rename_i old n he1 g1 g2
  cases sameE (nxtV st fr to old e n) old
  ·simp only [cond_false]
   by_cases q:to.toNat=i
   ·subst q
    rw [g1] at hx;cases hx
    exact ⟨_,List.getElem?_set_self ((List.getElem?_eq_some_iff.1 g1).1),(Z0b (hes _ (mG0 g1)) he1 (he he1)).2⟩
   ·exact ⟨x,by rw [List.getElem?_set_ne q];exact hx,Zxb x⟩
  ·exact keep
 ·exact keep
def Vs (u:U) (t:Int) (l:List En) (es:List E) (i:Nat) (d:A):Prop:=
 ∃ x y,es[d.2.2.2.2.2.2.2.1.toNat]? = some x∧es[d.2.2.2.2.2.2.2.2.toNat]? = some y∧leO (outV u t i ((es[i]?).getD offE) l).1 x∧leO (outV u t i ((es[i]?).getD offE) l).2.1 y
theorem Z1K (hu:unitOK u) (ht:0≤t) (hl:tabOK l) (hn:l.length≤1000) (hc:u.2.2.2[t.toNat]? = some c) {s:St3} (v:Inv u t c.2.length s.2.1 s.2.2) {i:Nat} {d:A} (hd:c.2[i]? = some d) :
  Inv u t c.2.length (nodeV u t l st i s d).2.1 (nodeV u t l st i s d).2.2∧upL s.2.1 (nodeV u t l st i s d).2.1 ∧
  ((nodeV u t l st i s d).1=false→nodeV u t l st i s d=s∧s.1=false∧Vs u t l s.2.1 i d):=by
 obtain ⟨b,es,ns⟩:=s
 simp only at v
 have hi:=(List.getElem?_eq_some_iff.1 hd).1
 have ha:=(hu.ts c (mG0 hc)).a d (mG0 hd)
 have hie:i<es.length:=by rw [v.le];exact hi
 have ge:es[i]? = some es[i]:=List.getElem?_eq_getElem hie
 obtain ⟨_,_,o3,_⟩:=Znh hu ht hl hn hc (v.ok _ (List.getElem_mem hie)) hi
 have hx:=ha.nx
 have hy:=ha.el
 have ve:=v.le
 have vn:=v.ln
 have hN:nodeV u t l st i (b,es,ns) d=(b||(comeV st i d.2.2.2.2.2.2.2.1 (outV u t i es[i] l).1 es ns).1||(comeV st i d.2.2.2.2.2.2.2.2 (outV u t i es[i] l).2.1 (comeV st i d.2.2.2.2.2.2.2.1 (outV u t i es[i] l).1 es ns).2.1 (comeV st i d.2.2.2.2.2.2.2.1 (outV u t i es[i] l).1 es ns).2.2).1,
   (comeV st i d.2.2.2.2.2.2.2.2 (outV u t i es[i] l).2.1 (comeV st i d.2.2.2.2.2.2.2.1 (outV u t i es[i] l).1 es ns).2.1 (comeV st i d.2.2.2.2.2.2.2.1 (outV u t i es[i] l).1 es ns).2.2).2):=by
  unfold nodeV
  simp only [ge,Option.getD_some]
 rw [hN]
 have hA:Vs u t l es i d↔∃ x y,es[d.2.2.2.2.2.2.2.1.toNat]? = some x∧es[d.2.2.2.2.2.2.2.2.toNat]? = some y∧leO (outV u t i es[i] l).1 x∧leO (outV u t i es[i] l).2.1 y:=by
  unfold Vs
  simp only [ge,Option.getD_some]
 simp only [hA]
 clear hN hA
 generalize outV u t i es[i] l=o at o3
 have c1:=ZIW (st:=st) (fr:=(i:Int)) (to:=d.2.2.2.2.2.2.2.1) (e:=o.1) (ns:=ns) v.ok o3.nx
 have u1:=ZWl (st:=st) (fr:=(i:Int)) (to:=d.2.2.2.2.2.2.2.1) (e:=o.1) (ns:=ns) v.ok o3.nx
 have s1:=ZMd (st:=st) (fr:=(i:Int)) (to:=d.2.2.2.2.2.2.2.1) (e:=o.1) (ns:=ns) v.ok o3.nx (by omega) (by omega)
 generalize comeV st i d.2.2.2.2.2.2.2.1 o.1 es ns=r at c1 u1 s1
 have c2:=ZIW (st:=st) (fr:=(i:Int)) (to:=d.2.2.2.2.2.2.2.2) (e:=o.2.1) (ns:=r.2.2) c1.1 o3.el
 have u2:=ZWl (st:=st) (fr:=(i:Int)) (to:=d.2.2.2.2.2.2.2.2) (e:=o.2.1) (ns:=r.2.2) c1.1 o3.el
 have s2:=ZMd (st:=st) (fr:=(i:Int)) (to:=d.2.2.2.2.2.2.2.2) (e:=o.2.1) (ns:=r.2.2) c1.1 o3.el (by omega) (by omega)
 generalize comeV st i d.2.2.2.2.2.2.2.2 o.2.1 r.2.1 r.2.2=q at c2 u2 s2
 refine ⟨⟨c2.1,c2.2.1.trans (c1.2.1.trans v.le),c2.2.2.trans (c1.2.2.trans v.ln)⟩,Zzo u1 u2,fun h=>?_⟩
 simp only [Bool.or_eq_false_iff] at h
 obtain ⟨⟨rfl,h1⟩,h2⟩:=h
 obtain ⟨rfl,x,gx,lx⟩:=s1 h1
 obtain ⟨rfl,y,gy,ly⟩:=s2 h2
 exact ⟨rfl,rfl,x,y,gx,gy,lx,ly⟩
theorem ZPT (hu:unitOK u) (ht:0≤t) (hl:tabOK l) (hn:l.length≤1000) (hc:u.2.2.2[t.toNat]? = some c):∀ (r:List A) (i:Nat) (s:St3),c.2.drop i=r→Inv u t c.2.length s.2.1 s.2.2→
  Inv u t c.2.length (ZK (fun i s d=>nodeV u t l st i s d) i r s).2.1 (ZK (fun i s d=>nodeV u t l st i s d) i r s).2.2∧upL s.2.1 (ZK (fun i s d=>nodeV u t l st i s d) i r s).2.1 ∧
  ((ZK (fun i s d=>nodeV u t l st i s d) i r s).1=false→ZK (fun i s d=>nodeV u t l st i s d) i r s=s∧s.1=false∧∀ (j:Nat) (d:A),r[j]? = some d→Vs u t l s.2.1 (i+j) d)
 | [],i,s,_,v=>⟨v,ZEF _,fun h=>⟨rfl,h,fun j d k=>by simp at k⟩⟩
 | d::r,i,s,hd,v=>by
  have e:c.2[i]? = some d:=by
   have:=congrArg (fun q=>q[0]?) hd
   simpa using this
  obtain ⟨n1,n2,n3⟩:=Z1K (st:=st) hu ht hl hn hc v e
  obtain ⟨h1,h2,h3⟩:=ZPT hu ht hl hn hc r (i+1) (nodeV u t l st i s d) (by rw [← List.drop_drop,hd];rfl) n1
  rw [ZK]
  refine ⟨h1,Zzo n2 h2,fun h=>?_⟩
  obtain ⟨k1,k2,k3⟩:=h3 h
  obtain ⟨q1,q2,q3⟩:=n3 k2
  rw [q1] at k1 k3
  refine ⟨by rw [q1];exact k1,q2,fun j d' hj=>?_⟩
  cases j with
  | zero=>rw [List.getElem?_cons_zero] at hj;cases hj;exact q3
  | succ j=>
   rw [List.getElem?_cons_succ] at hj
   have:=k3 j d' hj
   rw [show i+(j+1)=i+1+j by omega]
   exact this
theorem ZXA (hu:unitOK u) (ht:0≤t) (hl:tabOK l) (hn:l.length≤1000) (hc:u.2.2.2[t.toNat]? = some c):∀ (n:Nat) (es:List E) (ns:List Int) (r:Int) (d:Bool),Inv u t c.2.length es ns→
  Inv u t c.2.length (runV u t l st c n es ns r d).1 (runV u t l st c n es ns r d).2.1∧upL es (runV u t l st c n es ns r d).1∧r≤(runV u t l st c n es ns r d).2.2.1∧(runV u t l st c n es ns r d).2.2.1≤r+n ∧
  ((runV u t l st c n es ns r d).2.2.2=true∨(runV u t l st c n es ns r d).2.2.1=r+n)∧(d=false→1≤n→r+1≤(runV u t l st c n es ns r d).2.2.1) ∧
  (d=false→(runV u t l st c n es ns r d).2.2.2=true→∀ (j:Nat) (a:A),c.2[j]? = some a→Vs u t l (runV u t l st c n es ns r d).1 j a)
 | 0,es,ns,r,d,v=>⟨v,ZEF _,Int.le_refl _,by simp [runV],.inr (by simp [runV]),fun _ h=>by omega,fun h k=>by simp only [runV] at k;rw [h] at k;cases k⟩
 | n+1,es,ns,r,true,v=>⟨v,ZEF _,Int.le_refl _,by simp only [runV,cond_true];omega,.inl rfl,(fun h=>nomatch h),fun h=>nomatch h⟩
 | n+1,es,ns,r,false,v=>by
  obtain ⟨h1,h2,h3⟩:=ZPT (st:=st) hu ht hl hn hc c.2 0 (false,es,ns) rfl v
  rw [show runV u t l st c (n+1) es ns r false=runV u t l st c n (Z5 u t l st c es ns).2.1 (Z5 u t l st c es ns).2.2 (r+1) (!(Z5 u t l st c es ns).1) from rfl]
  have h1:Inv u t c.2.length (Z5 u t l st c es ns).2.1 (Z5 u t l st c es ns).2.2:=h1
  have h2:upL es (Z5 u t l st c es ns).2.1:=h2
  have h3:(Z5 u t l st c es ns).1=false→Z5 u t l st c es ns=(false,es,ns)∧_∧∀ (j:Nat) (d:A),c.2[j]? = some d→Vs u t l es (0+j) d:=h3
  obtain ⟨i1,i2,i3,i4,i5,i6,i7⟩:=ZXA hu ht hl hn hc n (Z5 u t l st c es ns).2.1 (Z5 u t l st c es ns).2.2 (r+1) (!(Z5 u t l st c es ns).1) h1
  refine ⟨i1,Zzo h2 i2,by omega,by omega,?_,fun _ _=>i3,fun _ hd j a ha=>?_⟩
  ·rcases i5 with k | k
   ·exact .inl k
   ·exact .inr (by omega)
  ·cases hb:(Z5 u t l st c es ns).1
   ·obtain ⟨k1,_,k3⟩:=h3 hb
    have e:runV u t l st c n (Z5 u t l st c es ns).2.1 (Z5 u t l st c es ns).2.2 (r+1) (!false)=(es,ns,r+1,true):=by
     rw [k1]
     cases n<;>rfl
    rw [e]
    have:=k3 j a ha
    rwa [Nat.zero_add] at this
   ·rw [hb] at i7 hd
    exact i7 rfl hd j a ha
end
end
section
open Go.Proofs
theorem ZDa {a b:I} (ha:Zd a=false) (hb:Zd b=false) (h:leqB b a=true):Zg a b=a:=by
 rw [QE] at h
 have ka:=ZS ha
 have kb:=ZS hb
 unfold Zg
 rw [ha,hb]
 unfold sub at h
 obtain ⟨a1,a2⟩:=a
 obtain ⟨b1,b2⟩:=b
 simp only [Bool.false_eq_true,if_false] at *
 rw [Prod.mk.injEq]
 simp only [mn,mx]
 constructor<;>(repeat' split)<;>omega
theorem ZWf {x y:Int} (hx:okB x) (hy:okB y) (h:subB x y):andI x y=x:=by
 rw [Zsd hx hy]
 have:x.toNat &&& y.toNat=x.toNat:=Nat.eq_of_testBit_eq fun i=>by
  rw [Nat.testBit_and]
  cases q:x.toNat.testBit i
  ·rfl
  ·rw [h i q];rfl
 rw [this]
 unfold okB at hx
 omega
end
abbrev YH:=((List I)×(List I)×Int×Int)
abbrev QV:=Unit
abbrev QW:=Bool
def VP (s1 s7:List I) (s8 s9:Int):Option (((List I)×(List I)×Int×Int)⊕(Unit⊕Bool)):=bif decide (s9<s8) then bif decide (0≤s9) then Za s7[s9.toNat]? none fun d6=>Za (Zfl (s1,s9,())) none fun d7=>Za (QB (d6,d7,())) none fun d8=>bif !d8 then some (.inr (.inr false)) else some (.inl (s1,s7,s8,i64.wrap (s9+1))) else none else some (.inr (.inl PUnit.unit))
def ZpJ:YH→Option (YH⊕(QV⊕QW)):=fun (a,b,c,d)=>VP a b c d
def Zd9 (x:YH):Option (QV⊕QW):=Zh ZpJ Zl x
def ZuD (a0 a1:List I):Option Bool:=Za (Zd9 (a1,a0,(a0.length:Int),0)) none fun d4=>Sum.elim (fun e5=>some true) (fun e5=>some e5) d4
def ZgZ (x:((List I)×((List I)×Unit))):Option Bool:=ZuD x.1 x.2.1
def ZdD (s1 s7:List I) (i:Nat)  (d:I):Option (Unit⊕(QV⊕QW)):=
 Za (Zfl (s1,(i:Int),())) (none) fun d7=>
  Za (QB (d,d7,())) (none) fun d8=>
  bif !d8 then
  some (.inr (.inr false))
 else some (.inl ())
def Zpq (s1 s7:List I):Option (QV⊕QW):=
 some (.inl PUnit.unit)
abbrev ZBq (s1 s7:List I) (i:Nat) (s:Unit):YH:=(s1,s7,(s7.length:Int),(i:Int))
def ZjB (s1 s7:List I) (s:Unit):Option (QV⊕QW):=Zp (fun i s d=>ZdD s1 s7 i  d) (fun s=>Zpq s1 s7 ) 0 s7 s
theorem ZBe (s1 s7:List I) (s:Unit) (hl:s7.length<9223372036854775807):Zd9 (s1,s7,(s7.length:Int),0)=ZjB s1 s7 s:=by
 unfold Zd9 ZjB
 refine Zs s7 (ZBq s1 s7) _ _ ?_ ?_ s (by unfold Zl;omega)
 ·intro i s d hi hd
  have e1:decide ((i:Int)<(s7.length:Int))=true:=dT0 (by omega)
  have e2:decide (0≤(i:Int))=true:=dT0 (by omega)
  have e3:Int.toNat (i:Int)=i:=tN0 i
  have e4:=Zq hi (Nat.le_of_lt hl)
  show VP (s1) (s7) ((s7.length:Int)) ((i:Int))=upd _ (ZdD s1 s7 i  d)
  unfold VP ZdD
  simp only [e1,e2,e3,e4,hd,cond_true,cond_false,Zb,ZC,ZF,ZD,ZI,ZJ,ZE]
 ·intro s
  have e1:decide ((s7.length:Int)<(s7.length:Int))=false:=dF0 (by omega)
  show VP (s1) (s7) ((s7.length:Int)) ((s7.length:Int))=_
  unfold VP Zpq
  rw [e1]
  rfl
def ZHw (a0 a1:E):Option Bool:=bif !a0.1 then some true else bif a1.1 then Za (ZgZ (a0.2.1,a1.2.1,())) none fun d3=>bif d3 then Za (ZgZ (a0.2.2.1,a1.2.2.1,())) none fun d4=>bif d4 then Za (ZgZ (a0.2.2.2.1,a1.2.2.2.1,())) none fun d5=>bif d5 then bif i64.wrap (↑(BitVec.ofInt i64.bits a1.2.2.2.2.1 &&& BitVec.ofInt i64.bits a0.2.2.2.2.1).toNat:Int)==a1.2.2.2.2.1 then some (i64.wrap (↑(BitVec.ofInt i64.bits a0.2.2.2.2.2 &&& BitVec.ofInt i64.bits a1.2.2.2.2.2).toNat:Int)==a0.2.2.2.2.2) else some false else some false else some false else some false else some false
def Zg8 (x:E×(E×Unit)):Option Bool:=ZHw x.1 x.2.1
abbrev ZvO:Type:=(Int×(List E)×(List En)×(List A)×Int×Int×(List Int)×(List Int)×Int×(List C))
abbrev Hq:=ZvO
abbrev Jh:=Unit
abbrev Ji:=Bool
def W5 (s1:Int) (s2:List E) (s3:List En) (s34:List A) (s35 s36:Int) (b0 b0_1:List Int) (b0_2:Int) (b0_3:List C):Option (ZvO⊕(Unit⊕Bool)):=bif decide (s36<s35) then bif decide (0≤s36) then Za s34[s36.toNat]? none fun d12=>bif decide (0≤s36) then Za s2[s36.toNat]? none fun d13=>Za (Ze6 ((b0,b0_1,b0_2,b0_3),s1,s36,d13,s3,())) none fun d14=>bif decide (0≤d12.2.2.2.2.2.2.2.1) then Za s2[Int.toNat d12.2.2.2.2.2.2.2.1]? none fun d15=>Za (Zg8 (d14.1,d15,())) none fun d16=>bif !d16 then some (.inr (.inr false)) else bif decide (0≤d12.2.2.2.2.2.2.2.2) then Za s2[Int.toNat d12.2.2.2.2.2.2.2.2]? none fun d17=>Za (Zg8 (d14.2.1,d17,())) none fun d18=>bif !d18 then some (.inr (.inr false)) else some (.inl (s1,s2,s3,s34,s35,i64.wrap (s36+1),b0,b0_1,b0_2,b0_3)) else none else none else none else none else some (.inr (.inl PUnit.unit))
def Zq4:Hq→Option (Hq⊕(Jh⊕Ji)):=fun (a,b,c,d,e,f,g,h,i,j)=>W5 a b c d e f g h i j
def Zbg (x:Hq):Option (Jh⊕Ji):=Zh Zq4 Zl x
def ZmV (a0:U) (a1:Int) (a2:List E) (a3:List En):Option Bool:=bif decide (0≤a1) then Za a0.2.2.2[a1.toNat]? none fun d6=>bif (a2.length:Int) !=(List.length d6.2:Int) then some false else Za (Zlw (a0,a1,())) none fun d7=>Za a2[Int.toNat (0:Int)]? none fun d8=>Za (Zg8 (d7,d8,())) none fun d9=>bif !d9 then some false else Za (Zbg (a1,a2,a3,d6.2,(List.length d6.2:Int),0,a0)) none fun d10=>Sum.elim (fun e11=>some true) (fun e11=>some e11) d10 else none
def Zes (s1:Int) (s2:List E) (s3:List En) (b0 b0_1:List Int) (b0_2:Int) (b0_3:List C) (s34:List A) (i:Nat)  (d:A):Option (Unit⊕(Jh⊕Ji)):=
 Za s2[i]? (none) fun d13=>
  Za (Ze6 ((b0,b0_1,b0_2,b0_3),s1,(i:Int),d13,s3,())) (none) fun d14=>
  bif decide (0≤d.2.2.2.2.2.2.2.1) then
  Za s2[Int.toNat d.2.2.2.2.2.2.2.1]? (none) fun d15=>
  Za (Zg8 (d14.1,d15,())) (none) fun d16=>
  bif !d16 then
  some (.inr (.inr false))
 else bif decide (0≤d.2.2.2.2.2.2.2.2) then
  Za s2[Int.toNat d.2.2.2.2.2.2.2.2]? (none) fun d17=>
  Za (Zg8 (d14.2.1,d17,())) (none) fun d18=>
  bif !d18 then
  some (.inr (.inr false))
 else some (.inl ())
 else none
 else none
def Zql (s1:Int) (s2:List E) (s3:List En) (b0 b0_1:List Int) (b0_2:Int) (b0_3:List C) (s34:List A):Option (Jh⊕Ji):=
 some (.inl PUnit.unit)
abbrev ZDN (s1:Int) (s2:List E) (s3:List En) (b0 b0_1:List Int) (b0_2:Int) (b0_3:List C) (s34:List A) (i:Nat) (s:Unit):Hq:=(s1,s2,s3,s34,(s34.length:Int),(i:Int),b0,b0_1,b0_2,b0_3)
def ZkK (s1:Int) (s2:List E) (s3:List En) (b0 b0_1:List Int) (b0_2:Int) (b0_3:List C) (s34:List A) (s:Unit):Option (Jh⊕Ji):=Zp (fun i s d=>Zes s1 s2 s3 b0 b0_1 b0_2 b0_3 s34 i  d) (fun s=>Zql s1 s2 s3 b0 b0_1 b0_2 b0_3 s34 ) 0 s34 s
theorem ZDC (s1:Int) (s2:List E) (s3:List En) (b0 b0_1:List Int) (b0_2:Int) (b0_3:List C) (s34:List A) (s:Unit) (hl:s34.length<9223372036854775807):Zbg (s1,s2,s3,s34,(s34.length:Int),0,b0,b0_1,b0_2,b0_3)=ZkK s1 s2 s3 b0 b0_1 b0_2 b0_3 s34 s:=by
 unfold Zbg ZkK
 refine Zs s34 (ZDN s1 s2 s3 b0 b0_1 b0_2 b0_3 s34) _ _ ?_ ?_ s (by unfold Zl;omega)
 ·intro i s d hi hd
  have e1:decide ((i:Int)<(s34.length:Int))=true:=dT0 (by omega)
  have e2:decide (0≤(i:Int))=true:=dT0 (by omega)
  have e3:Int.toNat (i:Int)=i:=tN0 i
  have e4:=Zq hi (Nat.le_of_lt hl)
  show W5 (s1) (s2) (s3) (s34) ((s34.length:Int)) ((i:Int)) (b0) (b0_1) (b0_2) (b0_3)=upd _ (Zes s1 s2 s3 b0 b0_1 b0_2 b0_3 s34 i  d)
  unfold W5 Zes
  simp only [e1,e2,e3,e4,hd,cond_true,cond_false,Zb,ZC,ZF,ZD,ZI,ZJ,ZE]
 ·intro s
  have e1:decide ((s34.length:Int)<(s34.length:Int))=false:=dF0 (by omega)
  show W5 (s1) (s2) (s3) (s34) ((s34.length:Int)) ((s34.length:Int)) (b0) (b0_1) (b0_2) (b0_3)=_
  unfold W5 Zql
  rw [e1]
  rfl
def ZK5:List Sh:=[.dat tU,.dat (.int .i64),.dat (.sl tE),.dat (.sl tEn)]
def ZqI:Nat→List Nat:=fun c=>bif c.beq 0 then [1,2,3,4,9,10] else [8]
def Zzf:List Con:=[⟨55,Zqc,Zza⟩,⟨29,Zuz,ZE6⟩,⟨56,ZwM,ZIv⟩]
def ZdM:StS:=⟨[(1,.int .i64),(2,.sl tE),(3,.sl tEn),(4,.ptr 0 0),(9,.sl tA),(10,.int .i64)],[(0,.box [.sl (.int .i64),.sl (.int .i64),.int .i64,.sl tC])],1⟩
def Hd:StS:=⟨[(8,.undef)],[],0⟩
def He:StS:=⟨[(8,.bool)],[],0⟩
abbrev K2:=(Int×(List E)×(List En)×(List A)×Int×(List Int)×(List Int)×Int×(List C))
def Zzz:StD ZdM→K2:=fun ((a,b,c,_,d,e,_),((f,g,h,i,_),_))=>(a,b,c,d,e,f,g,h,i)
def ZAf:K2→StD ZdM:=fun (a,b,c,d,e,f,g,h,i)=>((a,b,c,(),d,e,()),((f,g,h,i,()),()))
abbrev QL:=Unit
def ZSw (d:StD Hd):QL:=()
def ZfK (x:QL):StD Hd:=(((),()),())
abbrev QM:=Bool
def ZSx (d:StD He):QM:=(d.1.1)
def ZfL (x:QM):StD He:=((x,()),())
def H1 (s1:Int) (s2:List E) (s3:List En) (s9:List A) (s10:Int) (b0 b0_1:List Int) (b0_2:Int) (b0_3:List C):Option ((Int×(List E)×(List En)×(List A)×Int×(List Int)×(List Int)×Int×(List C))⊕(Unit⊕Bool)):=bif decide (s10<(s9.length:Int)) then bif decide (0≤s10) then Za s2[s10.toNat]? none fun d11=>Za (Zce ((b0,b0_1,b0_2,b0_3),s1,s10,d11,s3,())) none fun d12=>bif decide (0≤s10) then Za s9[s10.toNat]? none fun d13=>bif decide (0≤d13.2.2.2.2.2.2.2.1) then Za s2[Int.toNat d13.2.2.2.2.2.2.2.1]? none fun d14=>Za (YA (d12.1,d14,())) none fun d15=>bif !d15 then some (.inr (.inr false)) else bif decide (0≤s10) then Za s9[s10.toNat]? none fun d16=>bif decide (0≤d16.2.2.2.2.2.2.2.2) then Za s2[Int.toNat d16.2.2.2.2.2.2.2.2]? none fun d17=>Za (YA (d12.2.1,d17,())) none fun d18=>bif !d18 then some (.inr (.inr false)) else some (.inl (s1,s2,s3,s9,i64.wrap (s10+1),b0,b0_1,b0_2,b0_3)) else none else none else none else none else none else some (.inr (.inl PUnit.unit))
def ZoL:K2→Option (K2⊕(QL⊕QM)):=fun (a,b,c,d,e,f,g,h,i)=>H1 a b c d e f g h i
def Vx (x:K2):Option (QL⊕QM):=Zh ZoL Zl x
def ZrS:Nat→Tm→Prog (Nat×Tm):=(varP 0 (fun T h=>(rdS ZdM T h).map Zzz) Vx (fun y=>.alt y (altE 2 Hd ZfK) (altE 1 He ZfL)) (fun _ _=>.fail))
def ZDf:Lpc:=⟨36,0,74,(fun base T=>.norm base (ZqI 0) T (ZrS base)),by kernel_rfl,by kernel_rfl,(loopU Zzf [] 40 1048576 8 (keep:=ZqI) (q:=ZrS) (by kernel_rfl) (Zv (s:=ZdM) (un:=ZAf) (by rfl) (fun _=>rfl) (ZW (Zn (s:=Hd) (un:=ZfK) (flat:=ZSw) (by rfl) (fun _=>rfl)) (Zn (s:=He) (un:=ZfL) (flat:=ZSx) (by rfl) (fun _=>rfl))) (step:=ZoL) (fun _=>by kernel_rfl) (fun _ _ e=>⟨_,e⟩) (ZV (Zm 2 Hd ZfK) (Zm 1 He ZfL)) (ZB.fail _ _)))⟩
def Zfi (a0:U) (a1:Int) (a2:List E) (a3:List En):Option Bool:=bif decide (0≤a1) then Za a0.2.2.2[a1.toNat]? none fun d6=>bif (a2.length:Int) !=(List.length d6.2:Int) then some false else Za (Zg0 (a0,a1,())) none fun d7=>Za a2[Int.toNat (0:Int)]? none fun d8=>Za (YA (d7,d8,())) none fun d9=>bif !d9 then some false else Za (Vx (a1,a2,a3,d6.2,0,a0)) none fun d10=>Sum.elim (fun e11=>some true) (fun e11=>some e11) d10 else none
def KA (x:(U×(Int×((List E)×((List En)×Unit))))):Option Bool:=Zfi x.1 x.2.1 x.2.2.1 x.2.2.2.1
def Zo9:=conP true ZK5 (.dat .bool) KA
theorem ZxO:Zf prog 36 Zo9:=Ze (calU Zzf [ZDf] 40 1048576 8 36) true (by rfl) (by rfl) (fun x r e=>(Zk _ _ _ _ _ _ _).trans ((show _=KA x by kernel_rfl).trans e)) (.inl rfl)
def Zcn (s1:Int) (s2:List E) (s3:List En) (b0 b0_1:List Int) (b0_2:Int) (b0_3:List C) (s9:List A) (i:Nat)  (d:A):Option (Unit⊕(QL⊕QM)):=
 Za s2[i]? (none) fun d11=>
  Za (Zce ((b0,b0_1,b0_2,b0_3),s1,(i:Int),d11,s3,())) (none) fun d12=>
  bif decide (0≤d.2.2.2.2.2.2.2.1) then
  Za s2[Int.toNat d.2.2.2.2.2.2.2.1]? (none) fun d14=>
  Za (YA (d12.1,d14,())) (none) fun d15=>
  bif !d15 then
  some (.inr (.inr false))
 else bif decide (0≤d.2.2.2.2.2.2.2.2) then
  Za s2[Int.toNat d.2.2.2.2.2.2.2.2]? (none) fun d17=>
  Za (YA (d12.2.1,d17,())) (none) fun d18=>
  bif !d18 then
  some (.inr (.inr false))
 else some (.inl ())
 else none
 else none
def ZoA (s1:Int) (s2:List E) (s3:List En) (b0 b0_1:List Int) (b0_2:Int) (b0_3:List C) (s9:List A):Option (QL⊕QM):=
 some (.inl PUnit.unit)
abbrev Zz4 (s1:Int) (s2:List E) (s3:List En) (b0 b0_1:List Int) (b0_2:Int) (b0_3:List C) (s9:List A) (i:Nat) (s:Unit):K2:=(s1,s2,s3,s9,(i:Int),b0,b0_1,b0_2,b0_3)
def Zio (s1:Int) (s2:List E) (s3:List En) (b0 b0_1:List Int) (b0_2:Int) (b0_3:List C) (s9:List A) (s:Unit):Option (QL⊕QM):=Zp (fun i s d=>Zcn s1 s2 s3 b0 b0_1 b0_2 b0_3 s9 i  d) (fun s=>ZoA s1 s2 s3 b0 b0_1 b0_2 b0_3 s9 ) 0 s9 s
theorem Zz0 (s1:Int) (s2:List E) (s3:List En) (b0 b0_1:List Int) (b0_2:Int) (b0_3:List C) (s9:List A) (s:Unit) (hl:s9.length<9223372036854775807):Vx (s1,s2,s3,s9,0,b0,b0_1,b0_2,b0_3)=Zio s1 s2 s3 b0 b0_1 b0_2 b0_3 s9 s:=by
 unfold Vx Zio
 refine Zs s9 (Zz4 s1 s2 s3 b0 b0_1 b0_2 b0_3 s9) _ _ ?_ ?_ s (by unfold Zl;omega)
 ·intro i s d hi hd
  have e1:decide ((i:Int)<(s9.length:Int))=true:=dT0 (by omega)
  have e2:decide (0≤(i:Int))=true:=dT0 (by omega)
  have e3:Int.toNat (i:Int)=i:=tN0 i
  have e4:=Zq hi (Nat.le_of_lt hl)
  show H1 (s1) (s2) (s3) (s9) ((i:Int)) (b0) (b0_1) (b0_2) (b0_3)=upd _ (Zcn s1 s2 s3 b0 b0_1 b0_2 b0_3 s9 i  d)
  unfold H1 Zcn
  simp only [e1,e2,e3,e4,hd,cond_true,cond_false,Zb,ZC,ZF,ZD,ZI,ZJ,ZE]
 ·intro s
  have e1:decide ((s9.length:Int)<(s9.length:Int))=false:=dF0 (by omega)
  show H1 (s1) (s2) (s3) (s9) ((s9.length:Int)) (b0) (b0_1) (b0_2) (b0_3)=_
  unfold H1 ZoA
  rw [e1]
  rfl
section
open Go.Proofs
def rowsB (a b:List I):Bool:=allIx (fun i x=>leqB x (rowAt b i)) 0 a
theorem ZH7 (a b:List I) (ha:a.length≤1000):ZuD a b=some (rowsB a b):=by
 unfold ZuD
 rw [ZBe b a () (by omega)]
 unfold ZjB
 rw [Vo (p:=fun i x=>leqB x (rowAt b i)) (o:=.inr false) a 0 fun j d hd=>?_]
 ·unfold rowsB
  cases allIx (fun i x=>leqB x (rowAt b i)) 0 a<;>rfl
 ·unfold ZdD
  simp only [Zfl,ZLB,Zb,QB,Zkj]
  cases leqB d (rowAt b (0+j))<;>rfl
theorem ZTa (a b:List I) (ha:a.length≤1000):ZmY a b=some (rowsB a b):=by
 unfold ZmY
 rw [ZqU b a () (by omega)]
 unfold ZeK
 rw [Vo (p:=fun i x=>leqB x (rowAt b i)) (o:=.inr false) a 0 fun j d hd=>?_]
 ·unfold rowsB
  cases allIx (fun i x=>leqB x (rowAt b i)) 0 a<;>rfl
 ·unfold WS
  simp only [YB,ZzV,Zb,JX,ZkI]
  cases leqB d (rowAt b (0+j))<;>rfl
theorem ZLH {a b:List I} (hl:a.length=b.length):rowsB a b=true↔leR a b:=by
 unfold rowsB
 rw [Zpo]
 constructor
 ·intro h
  refine ⟨hl,fun i x y hx hy=>?_⟩
  have:=h i x hx
  rwa [Nat.zero_add,ZBm hy] at this
 ·intro h j d hd
  have hj:j<b.length:=by rw [← hl];exact (List.getElem?_eq_some_iff.1 hd).1
  rw [Nat.zero_add,ZBm (List.getElem?_eq_getElem hj)]
  exact h.2 j d _ hd (List.getElem?_eq_getElem hj)
theorem ZJf {a b:Int} (ha:okB a) (hb:okB b):(andI a b==a)=true↔subB a b:=by
 rw [beq_iff_eq]
 refine ⟨fun h=>?_,ZWf ha hb⟩
 have:=Z2n ha hb
 rwa [h] at this
theorem ZT9 {a b:Int} (ha:okB a) (hb:okB b):(i64.wrap ((BitVec.ofInt i64.bits a &&& ~~~BitVec.ofInt i64.bits b).toNat:Int)==0)=true↔subB a b:=by
 refine ⟨fun h=>?_,ZIP ha hb⟩
 unfold okB at *
 obtain ⟨r,h1,h2,h3⟩:=ZKY (a:=a.toNat) (b:=b.toNat) (by omega) (by omega)
 rw [show ((a.toNat:Nat):Int)=a by omega,show ((b.toNat:Nat):Int)=b by omega] at h1
 rw [h1,beq_iff_eq] at h
 have hr:r=0:=by omega
 intro i q
 have:=h3 i
 rw [hr,Nat.zero_testBit,q,Bool.true_and] at this
 simpa using this.symm
def leEB (x y:E):Bool:=bif !x.1 then true else bif y.1 then rowsB x.2.1 y.2.1&&(rowsB x.2.2.1 y.2.2.1&&(rowsB x.2.2.2.1 y.2.2.2.1&&(andI y.2.2.2.2.1 x.2.2.2.2.1==y.2.2.2.2.1&&andI x.2.2.2.2.2 y.2.2.2.2.2==x.2.2.2.2.2))) else false
section
variable {u:U} {t:Int} {x y:E}
theorem ZH4 (hu:unitOK u) (hx:x.1=true→envOK u t x):ZHw x y=some (leEB x y):=by
 unfold ZHw leEB
 cases x1:x.1
 ·rfl
 have s:=Zqi hu (hx x1)
 cases y1:y.1
 ·rfl
 simp only [Bool.not_true,cond_false,cond_true,ZgZ,ZH7 _ _ s.1,ZH7 _ _ s.2.1,ZH7 _ _ s.2.2,Zb]
 unfold andI
 cases rowsB x.2.1 y.2.1<;>cases rowsB x.2.2.1 y.2.2.1<;>cases rowsB x.2.2.2.1 y.2.2.2.1<;>(try rfl)
 simp only [cond_true,Bool.true_and]
 cases (i64.wrap (((BitVec.ofInt i64.bits y.2.2.2.2.1 &&& BitVec.ofInt i64.bits x.2.2.2.2.1).toNat:Nat):Int)==y.2.2.2.2.1)<;>rfl
theorem ZqM (hu:unitOK u) (hx:x.1=true→envOK u t x) (hy:y.1=true→envOK u t y):ZoB x y=some (leEB x y):=by
 unfold ZoB leEB
 cases x1:x.1
 ·rfl
 have ox:=hx x1
 have s:=Zqi hu ox
 cases y1:y.1
 ·rfl
 have oy:=hy y1
 have e1:(i64.wrap ((BitVec.ofInt i64.bits y.2.2.2.2.1 &&& ~~~BitVec.ofInt i64.bits x.2.2.2.2.1).toNat:Int)==0)=(andI y.2.2.2.2.1 x.2.2.2.2.1==y.2.2.2.2.1):=by
  rw [Bool.eq_iff_iff,ZT9 oy.must ox.must,ZJf oy.must ox.must]
 have e2:(i64.wrap ((BitVec.ofInt i64.bits x.2.2.2.2.2 &&& ~~~BitVec.ofInt i64.bits y.2.2.2.2.2).toNat:Int)==0)=(andI x.2.2.2.2.2 y.2.2.2.2.2==x.2.2.2.2.2):=by
  rw [Bool.eq_iff_iff,ZT9 ox.may oy.may,ZJf ox.may oy.may]
 simp only [Bool.not_true,cond_false,cond_true,Zfn,ZTa _ _ s.1,ZTa _ _ s.2.1,ZTa _ _ s.2.2,Zb,e1,e2]
 cases rowsB x.2.1 y.2.1<;>cases rowsB x.2.2.1 y.2.2.1<;>cases rowsB x.2.2.2.1 y.2.2.2.1<;>(try rfl)
 simp only [cond_true,Bool.true_and]
 cases (andI y.2.2.2.2.1 x.2.2.2.2.1==y.2.2.2.2.1)<;>rfl
theorem ZI4 (hx:x.1=true→envOK u t x) (hy:y.1=true→envOK u t y) (h:leO x y):leEB x y=true:=by
 unfold leEB
 cases x1:x.1
 ·rfl
 have k:=h x1
 have ox:=hx x1
 have oy:=hy k.on
 obtain ⟨l1,l2,l3⟩:=ZN6 ox oy
 rw [k.on,(ZLH l1).2 k.v,(ZLH l2).2 k.g,(ZLH l3).2 k.a,(ZJf oy.must ox.must).2 k.must,(ZJf ox.may oy.may).2 k.may]
 rfl
end
def Zwm (u:U) (t:Int) (l:List En) (c:C) (es:List E):Bool:=
 es.length==c.2.length&&(leEB (ZfA u c) ((es[0]?).getD offE)&&allIx (fun i d=>leEB (outV u t i ((es[i]?).getD offE) l).1 ((es[d.2.2.2.2.2.2.2.1.toNat]?).getD offE)&&leEB (outV u t i ((es[i]?).getD offE) l).2.1 ((es[d.2.2.2.2.2.2.2.2.toNat]?).getD offE)) 0 c.2)
section
variable {u:U} {t:Int} {l:List En} {c:C}
theorem out_eq' (hu:unitOK u) (ht:0≤t) (hl:tabOK l) (hn:l.length≤1000) (hc:u.2.2.2[t.toNat]? = some c) {e:E} (he:e.1=true→envOK u t e) {i:Nat} (hi:i<c.2.length) :
  Za2 u t i e l=some (outV u t i e l)∧ZnD u t i e l=some (outV u t i e l)∧outOK u t i e (outV u t i e l):=by
 obtain ⟨o,h1,h2,h3,h4⟩:=Z2w hu ht hl hn he (n:=(i:Int)) (by omega) hc (by omega)
 have:outV u t i e l=o:=by unfold outV;rw [h1];rfl
 rw [this]
 exact ⟨h1,h2,h3⟩
theorem ZDo (hu:unitOK u) (ht:0≤t) (hl:tabOK l) (hn:l.length≤1000) (hc:u.2.2.2[t.toNat]? = some c) {es:List E} (hes:∀ x∈es,x.1=true→envOK u t x) :
  ZmV u t es l=some (Zwm u t l c es)∧Zfi u t es l=some (Zwm u t l c es):=by
 have cl:=(hu.ts c (mG0 hc)).n
 have e0:decide (0≤t)=true:=dT0 ht
 have f1:=ZKu u t hu ht hc
 have f2:=ZEX u t hu ht hc
 have fo:=ZLh u t hu hc
 unfold ZmV Zfi Zwm
 simp only [e0,cond_true,hc,Zb]
 by_cases q:es.length=c.2.length
 case neg=>
  have q1:((es.length:Int) !=(c.2.length:Int))=true:=by simp;omega
  have q2:(es.length==c.2.length)=false:=by simpa using q
  simp only [q1,q2,cond_true,Bool.false_and,and_self]
 have q1:((es.length:Int) !=(c.2.length:Int))=false:=by simp;omega
 have q2:(es.length==c.2.length)=true:=by simpa using q
 have g0:es[0]? = some (es[0]'(by omega)):=List.getElem?_eq_getElem _
 have o0:=hes _ (List.getElem_mem (h:=(by omega:0<es.length)))
 have g0':es[Int.toNat (0:Int)]? = some (es[0]'(by omega)):=g0
 have l1:=ZH4 (y:=es[0]'(by omega)) hu (fun _=>fo)
 have l2:=ZqM hu (fun _=>fo) o0
 simp only [q1,q2,cond_false,Bool.true_and,Zlw,f1,Zg0,f2,Zb,g0,g0',Option.getD_some,Zg8,l1,YA,l2]
 cases leEB (ZfA u c) (es[0]'(by omega))
 ·exact ⟨rfl,rfl⟩
 simp only [Bool.not_true,cond_false,Bool.true_and]
 have r1:=ZDC t es l u.1 u.2.1 u.2.2.1 u.2.2.2 c.2 () (by omega)
 have r2:=Zz0 t es l u.1 u.2.1 u.2.2.1 u.2.2.2 c.2 () (by omega)
 have r1:Zbg (t,es,l,c.2,(c.2.length:Int),0,u)=_:=r1
 have r2:Vx (t,es,l,c.2,0,u)=_:=r2
 have look:∀ {k:Int},0≤k∧k<(c.2.length:Int)→∃ x,es[k.toNat]? = some x∧(x.1=true→envOK u t x):=fun {k} hk=>
  ⟨es[k.toNat]'(by omega),List.getElem?_eq_getElem _,hes _ (List.getElem_mem _)⟩
 unfold ZkK at r1
 unfold Zio at r2
 rw [Vo (p:=fun i d=>leEB (outV u t i ((es[i]?).getD offE) l).1 ((es[d.2.2.2.2.2.2.2.1.toNat]?).getD offE)&&leEB (outV u t i ((es[i]?).getD offE) l).2.1 ((es[d.2.2.2.2.2.2.2.2.toNat]?).getD offE)) (o:=.inr false) c.2 0 fun j d hd=>?_] at r1
 ·rw [Vo (p:=fun i d=>leEB (outV u t i ((es[i]?).getD offE) l).1 ((es[d.2.2.2.2.2.2.2.1.toNat]?).getD offE)&&leEB (outV u t i ((es[i]?).getD offE) l).2.1 ((es[d.2.2.2.2.2.2.2.2.toNat]?).getD offE)) (o:=.inr false) c.2 0 fun j d hd=>?_] at r2
  ·rw [r1,r2]
   cases allIx (fun i d=>leEB (outV u t i ((es[i]?).getD offE) l).1 ((es[d.2.2.2.2.2.2.2.1.toNat]?).getD offE)&&leEB (outV u t i ((es[i]?).getD offE) l).2.1 ((es[d.2.2.2.2.2.2.2.2.toNat]?).getD offE)) 0 c.2<;>exact ⟨rfl,rfl⟩
  ·rw [Nat.zero_add]
   have hj:=(List.getElem?_eq_some_iff.1 hd).1
   have ha:=(hu.ts c (mG0 hc)).a d (mG0 hd)
   obtain ⟨e,ge,oe⟩:=look (k:=(j:Int)) (by omega)
   rw [tN0] at ge
   obtain ⟨a,ga,oa⟩:=look ha.nx
   obtain ⟨b,gb,ob⟩:=look ha.el
   obtain ⟨h1,h2,h3⟩:=out_eq' hu ht hl hn hc oe hj
   have m1:=ZqM hu h3.nx oa
   have m2:=ZqM hu h3.el ob
   have d1:decide (0≤d.2.2.2.2.2.2.2.1)=true:=dT0 ha.nx.1
   have d2:decide (0≤d.2.2.2.2.2.2.2.2)=true:=dT0 ha.el.1
   unfold Zcn
   simp only [ge,hd,ga,gb,Zb,Option.getD_some,Zce,h2,d1,d2,cond_true,YA,m1,m2]
   cases leEB (outV u t j e l).1 a<;>cases leEB (outV u t j e l).2.1 b<;>rfl
 ·rw [Nat.zero_add]
  have hj:=(List.getElem?_eq_some_iff.1 hd).1
  have ha:=(hu.ts c (mG0 hc)).a d (mG0 hd)
  obtain ⟨e,ge,oe⟩:=look (k:=(j:Int)) (by omega)
  rw [tN0] at ge
  obtain ⟨a,ga,oa⟩:=look ha.nx
  obtain ⟨b,gb,ob⟩:=look ha.el
  obtain ⟨h1,h2,h3⟩:=out_eq' hu ht hl hn hc oe hj
  have m1:=ZH4 (y:=a) hu h3.nx
  have m2:=ZH4 (y:=b) hu h3.el
  have d1:decide (0≤d.2.2.2.2.2.2.2.1)=true:=dT0 ha.nx.1
  have d2:decide (0≤d.2.2.2.2.2.2.2.2)=true:=dT0 ha.el.1
  unfold Zes
  simp only [ge,hd,ga,gb,Zb,Option.getD_some,Ze6,h1,d1,d2,cond_true,Zg8,m1,m2]
  cases leEB (outV u t j e l).1 a<;>cases leEB (outV u t j e l).2.1 b<;>rfl
theorem ZZw (hu:unitOK u) (ht:0≤t) (hl:tabOK l) (hn:l.length≤1000) (hc:u.2.2.2[t.toNat]? = some c) {es:List E} {ns:List Int} (v:Inv u t c.2.length es ns) (h0:upL (es0 u c) es) (h:∀ (j:Nat) (a:A),c.2[j]? = some a→Vs u t l es j a):Zwm u t l c es=true:=by
 have cl:=(hu.ts c (mG0 hc)).n
 have q2:(es.length==c.2.length)=true:=by simpa using v.le
 have f0:(es0 u c)[0]? = some (ZfA u c):=by
  unfold es0
  rw [List.getElem?_set_self (by rw [List.length_replicate];omega)]
 obtain ⟨y,gy,ly⟩:=h0 0 _ f0
 have oy:=(v.ok y (mG0 gy)).env
 unfold Zwm
 rw [q2,gy,Option.getD_some,ZI4 (fun _=>ZLh u t hu hc) oy ly,Bool.true_and,Bool.true_and,Zpo]
 intro j d hd
 rw [Nat.zero_add]
 obtain ⟨a,b,ga,gb,la,lb⟩:=h j d hd
 have hj:=(List.getElem?_eq_some_iff.1 hd).1
 have hje:j<es.length:=by rw [v.le];exact hj
 have ge:es[j]? = some es[j]:=List.getElem?_eq_getElem hje
 obtain ⟨_,_,o3,_⟩:=Znh hu ht hl hn hc (v.ok _ (List.getElem_mem hje)) hj
 rw [ge,Option.getD_some] at la lb
 simp only [ge,Option.getD_some,ga,gb,ZI4 o3.nx (v.ok a (mG0 ga)).env la,ZI4 o3.el (v.ok b (mG0 gb)).env lb,Bool.true_and]
end
end
section
open Go.Proofs
section
variable {u:U} {t:Int} {l:List En} {c:C}
theorem ZN5 (hu:unitOK u) (ht:0≤t) (hl:tabOK l) (hn:l.length≤1000) (hc:u.2.2.2[t.toNat]? = some c) (st:List Int) :
  Inv u t c.2.length (endV u t l st c).1 (endV u t l st c).2.1∧upL (es0 u c) (endV u t l st c).1∧1≤(endV u t l st c).2.2.1∧(endV u t l st c).2.2.1≤100∧((endV u t l st c).2.2.2=true∨(endV u t l st c).2.2.1=100)∧((endV u t l st c).2.2.2=true→Zwm u t l c (endV u t l st c).1=true):=by
 obtain ⟨h1,h2,h3,h4,h5,h6,h7⟩:=ZXA (st:=st) hu ht hl hn hc 100 (es0 u c) (ns0 c) 0 false (ZSN hu hc)
 refine ⟨h1,h2,by have:=h6 rfl (by decide);show (1:Int)≤(runV u t l st c 100 (es0 u c) (ns0 c) 0 false).2.2.1;omega,by show (runV u t l st c 100 (es0 u c) (ns0 c) 0 false).2.2.1≤100;omega,?_,fun k=>ZZw hu ht hl hn hc h1 h2 (h7 rfl k)⟩
 rcases h5 with k | k
 ·exact .inl k
 ·exact .inr (by show (runV u t l st c 100 (es0 u c) (ns0 c) 0 false).2.2.1=100;omega)
end
end
def ZQq:List Sh:=[.dat tU,.dat (.int .i64)]
def Zu9:Nat→List Nat:=fun c=>bif c.beq 0 then [1,2,5,6] else [2,4]
def ZIH:List Con:=[⟨64,Zzv,ZKH⟩]
def ZhT:StS:=⟨[(1,.int .i64),(2,.ptr 0 0),(5,.int .i64),(6,.int .i64)],[(0,.box [.sl (.int .i64),.sl (.int .i64),.int .i64,.sl tC])],1⟩
def ZaA:StS:=⟨[(2,.ptr 0 0),(4,.undef)],[(0,.box [.sl (.int .i64),.sl (.int .i64),.int .i64,.sl tC])],1⟩
def ZaB:StS:=⟨[(2,.ptr 0 0),(4,.bool)],[(0,.box [.sl (.int .i64),.sl (.int .i64),.int .i64,.sl tC])],1⟩
abbrev VF:=(Int×Int×Int×(List Int)×(List Int)×Int×(List C))
def ZFF:StD ZhT→VF:=fun ((a,_,b,c,_),((d,e,f,g,_),_))=>(a,b,c,d,e,f,g)
def ZGL:VF→StD ZhT:=fun (a,b,c,d,e,f,g)=>((a,(),b,c,()),((d,e,f,g,()),()))
abbrev J5:=((List Int)×(List Int)×Int×(List C))
def ZWI:StD ZaA→J5:=fun ((_,_,_),((a,b,c,d,_),_))=>(a,b,c,d)
def ZjW:J5→StD ZaA:=fun (a,b,c,d)=>(((),(),()),((a,b,c,d,()),()))
abbrev J6:=(Bool×(List Int)×(List Int)×Int×(List C))
def ZWJ:StD ZaB→J6:=fun ((_,a,_),((b,c,d,e,_),_))=>(a,b,c,d,e)
def ZjX:J6→StD ZaB:=fun (a,b,c,d,e)=>(((),a,()),((b,c,d,e,()),()))
def ZbJ (s1 s5 s6:Int) (b0 b0_1:List Int) (b0_2:Int) (b0_3:List C):Option ((Int×Int×Int×(List Int)×(List Int)×Int×(List C))⊕(((List Int)×(List Int)×Int×(List C))⊕(Bool×(List Int)×(List Int)×Int×(List C)))):=bif decide (s6<(b0_3.length:Int)) then bif decide (0≤s6) then Za b0_3[s6.toNat]? none fun d9=>bif decide (i64.wrap (s5+(List.length d9.2:Int))>s1) then some (.inr (.inr (true,b0,b0_1,b0_2,b0_3))) else some (.inl (s1,i64.wrap (s5+(List.length d9.2:Int)),i64.wrap (s6+1),b0,b0_1,b0_2,b0_3)) else none else some (.inr (.inl (b0,b0_1,b0_2,b0_3)))
def Zr3:VF→Option (VF⊕(J5⊕J6)):=fun (a,b,c,d,e,f,g)=>ZbJ a b c d e f g
def ZcE (x:VF):Option (J5⊕J6):=Zh Zr3 Zl x
def Zxs:Nat→Tm→Prog (Nat×Tm):=(varP 0 (fun T h=>(rdS ZhT T h).map ZFF) ZcE (fun y=>.alt y (altE 2 ZaA ZjW) (altE 1 ZaB ZjX)) (fun _ _=>.fail))
def ZJC:Lpc:=⟨38,0,45,(fun base T=>.norm base (Zu9 0) T (Zxs base)),by kernel_rfl,by kernel_rfl,(loopU ZIH [] 40 1048576 8 (keep:=Zu9) (q:=Zxs) (by kernel_rfl) (Zv (s:=ZhT) (un:=ZGL) (by rfl) (fun _=>rfl) (ZW (Zn (s:=ZaA) (un:=ZjW) (flat:=ZWI) (by rfl) (fun _=>rfl)) (Zn (s:=ZaB) (un:=ZjX) (flat:=ZWJ) (by rfl) (fun _=>rfl))) (step:=Zr3) (fun _=>by kernel_rfl) (fun _ _ e=>⟨_,e⟩) (ZV (Zm 2 ZaA ZjW) (Zm 1 ZaB ZjX)) (ZB.fail _ _)))⟩
def Zta (a0:U) (a1:Int):Option Bool:=bif decide ((List.length a0.2.2.2:Int)>4) then some true else bif decide ((List.length a0.1:Int)>10) then some true else bif decide ((List.length a0.2.1:Int)>10) then some true else Za (ZcE (a1,0,0,a0)) none fun d4=>Sum.elim (fun e5=>Za (Zpm (e5,())) none fun d6=>some !d6) (fun e5=>some e5.1) d4
def Zlx (x:U×(Int×Unit)):Option Bool:=Zta x.1 x.2.1
def Zuy:=conP true ZQq (.dat .bool) Zlx
theorem ZE5:Zf prog 38 Zuy:=Ze (calU ZIH [ZJC] 40 1048576 8 38) true (by rfl) (by rfl) (fun x r e=>(Zk _ _ _ _ _ _ _).trans ((show _=Zlx x by kernel_rfl).trans e)) (.inl rfl)
def Qz (s1:Int) (b0 b0_1:List Int) (b0_2:Int) (b0_3:List C) (i:Nat) (s5:Int) (d:C):Option (Int⊕(J5⊕J6)):=
 bif decide (i64.wrap (s5+(↑(List.length d.2):Int))>s1) then
  some (.inr (.inr (true,b0,b0_1,b0_2,b0_3)))
 else some (.inl (i64.wrap (s5+(↑(List.length d.2):Int))))
def HK (s1:Int) (b0 b0_1:List Int) (b0_2:Int) (b0_3:List C) (s5:Int):Option (J5⊕J6):=
 some (.inl (b0,b0_1,b0_2,b0_3))
abbrev ZGp (s1:Int) (b0 b0_1:List Int) (b0_2:Int) (b0_3:List C) (i:Nat) (s:Int):VF:=(s1,s,(i:Int),b0,b0_1,b0_2,b0_3)
def Zl3 (s1:Int) (b0 b0_1:List Int) (b0_2:Int) (b0_3:List C) (s:Int):Option (J5⊕J6):=Zp (fun i s d=>Qz s1 b0 b0_1 b0_2 b0_3 i s d) (fun s=>HK s1 b0 b0_1 b0_2 b0_3 s) 0 b0_3 s
theorem ZGd (s1:Int) (b0 b0_1:List Int) (b0_2:Int) (b0_3:List C) (s:Int) (hl:b0_3.length<9223372036854775807):ZcE (s1,s,0,b0,b0_1,b0_2,b0_3)=Zl3 s1 b0 b0_1 b0_2 b0_3 s:=by
 unfold ZcE Zl3
 refine Zs b0_3 (ZGp s1 b0 b0_1 b0_2 b0_3) _ _ ?_ ?_ s (by unfold Zl;omega)
 ·intro i s d hi hd
  have e1:decide ((i:Int)<(b0_3.length:Int))=true:=dT0 (by omega)
  have e2:decide (0≤(i:Int))=true:=dT0 (by omega)
  have e3:Int.toNat (i:Int)=i:=tN0 i
  have e4:=Zq hi (Nat.le_of_lt hl)
  show ZbJ (s1) (s) ((i:Int)) (b0) (b0_1) (b0_2) (b0_3)=upd _ (Qz s1 b0 b0_1 b0_2 b0_3 i s d)
  unfold ZbJ Qz
  simp only [e1,e2,e3,e4,hd,cond_true,cond_false,Zb,ZC,ZF,ZD,ZI,ZJ,ZE]
 ·intro s
  have e1:decide ((b0_3.length:Int)<(b0_3.length:Int))=false:=dF0 (by omega)
  show ZbJ (s1) (s) ((b0_3.length:Int)) (b0) (b0_1) (b0_2) (b0_3)=_
  unfold ZbJ HK
  rw [e1]
  rfl
def ZK1:List Sh:=[.dat (.sl tR)]
def ZkG:Nat→List Nat:=fun c=>bif c.beq 0 then [3,6,7,8] else [3]
def Zzc:List Con:=[⟨81,Zs8,ZAa⟩]
def ZdK:StS:=⟨[(3,.row 0),(6,.sl tR),(7,.int .i64),(8,.int .i64)],[(0,.row tEn)],1⟩
def Hb:StS:=⟨[(3,.row 0)],[(0,.row tEn)],1⟩
abbrev K0:=((List Re)×Int×Int×(List En))
def Zzx:StD ZdK→K0:=fun ((_,a,b,c,_),(d,_))=>(a,b,c,d)
def ZAd:K0→StD ZdK:=fun (a,b,c,d)=>(((),a,b,c,()),(d,()))
abbrev QJ:=(List En)
def ZSu (d:StD Hb):QJ:=(d.2.1)
def ZfI (x:QJ):StD Hb:=(((),()),(x,()))
def HZ (s6:List Re) (s7 s8:Int) (b0:List En):Option (((List Re)×Int×Int×(List En))⊕(List En)):=bif decide (s8<s7) then bif decide (0≤s8) then Za s6[s8.toNat]? none fun d6=>Za (Zhb (b0,d6.2.1,())) none fun d7=>some (.inl (s6,s7,i64.wrap (s8+1),d7)) else none else some (.inr b0)
def ZoJ:K0→Option (K0⊕QJ):=fun (a,b,c,d)=>HZ a b c d
def Zdl (x:K0):Option QJ:=Zh ZoJ Zl x
def ZrQ:Nat→Tm→Prog (Nat×Tm):=(varP 0 (fun T h=>(rdS ZdK T h).map Zzx) Zdl (altE 2 Hb ZfI) (fun _ _=>.fail))
def ZDd:Lpc:=⟨73,0,18,(ownP [] [(3,tEn)] (ZkG 0) (fun base T=>.norm base (ZkG 0) T (ZrQ base))),by kernel_rfl,by kernel_rfl,(Ja (loopU Zzc [] 40 1048576 8 (keep:=ZkG) (q:=ZrQ) (by kernel_rfl) (Zv (s:=ZdK) (un:=ZAd) (by rfl) (fun _=>rfl) (Zn (s:=Hb) (un:=ZfI) (flat:=ZSu) (by rfl) (fun _=>rfl)) (step:=ZoJ) (fun _=>by kernel_rfl) (fun _ _ e=>⟨_,e⟩) (Zm 2 Hb ZfI) (ZB.fail _ _))))⟩
def Zsx (a0:List Re):Option (List En):=Za (Zdl (a0,(a0.length:Int),0,[])) none fun d3=>some d3
def Znw (x:(List Re)×Unit):Option (List En):=Zsx x.1
def ZwI:=conR false ZK1 tEn Znw
theorem ZLM:Zf prog 73 ZwI:=ZhA (calU Zzc [ZDd] 40 1048576 8 73) false (by rfl) (fun x r e=>(Zpp _ _ _ _ _ _ _).trans ((show _=Znw x by kernel_rfl).trans e)) (.inr (by rfl))
def HT  (s6:(List Re)) (i:Nat) (b0:(List En)) (d:Re):Option ((List En)⊕QJ):=
 Za (Zhb (b0,d.2.1,())) (none) fun d7=>
  some (.inl (d7))
def Zii  (s6:(List Re)) (b0:(List En)):Option QJ:=
 some b0
abbrev Zz2  (s6:(List Re)) (i:Nat) (s:(List En)):K0:=(s6,(s6.length:Int),(i:Int),s)
def Zim  (s6:(List Re)) (s:(List En)):Option QJ:=Zp (fun i s d=>HT  s6 i s d) (fun s=>Zii  s6 s) 0 s6 s
theorem ZzY  (s6:(List Re)) (s:(List En)) (hl:s6.length<9223372036854775807):Zdl (s6,(s6.length:Int),0,s)=Zim  s6 s:=by
 unfold Zdl Zim
 refine Zs s6 (Zz2  s6) _ _ ?_ ?_ s (by unfold Zl;omega)
 ·intro i s d hi hd
  have e1:decide ((i:Int)<(s6.length:Int))=true:=dT0 (by omega)
  have e2:decide (0≤(i:Int))=true:=dT0 (by omega)
  have e3:Int.toNat (i:Int)=i:=tN0 i
  have e4:=Zq hi (Nat.le_of_lt hl)
  show HZ (s6) ((s6.length:Int)) ((i:Int)) (s)=upd _ (HT  s6 i s d)
  unfold HZ HT
  simp only [e1,e2,e3,e4,hd,cond_true,cond_false,Zb,ZC,ZF,ZD,ZI,ZJ,ZE]
 ·intro s
  have e1:decide ((s6.length:Int)<(s6.length:Int))=false:=dF0 (by omega)
  show HZ (s6) ((s6.length:Int)) ((s6.length:Int)) (s)=_
  unfold HZ Zii
  rw [e1]
  rfl
def ZJk:List Sh:=[.dat (.sl tR)]
def Zpu:Nat→List Nat:=fun c=>bif c.beq 0 then [5,6,7] else [2]
def Zcr:StS:=⟨[(5,.sl tR),(6,.int .i64),(7,.int .i64)],[],0⟩
def Yt:StS:=⟨[(2,.undef)],[],0⟩
def Yu:StS:=⟨[(2,.bool)],[],0⟩
abbrev KB:=((List Re)×Int×Int)
def Zyg:StD Zcr→KB:=fun ((a,b,c,_),_)=>(a,b,c)
def Zyv:KB→StD Zcr:=fun (a,b,c)=>((a,b,c,()),())
abbrev Qt:=Unit
def ZRh (d:StD Yt):Qt:=()
def Ze0 (x:Qt):StD Yt:=(((),()),())
abbrev Qu:=Bool
def ZRi (d:StD Yu):Qu:=(d.1.1)
def Ze1 (x:Qu):StD Yu:=((x,()),())
def Y4 (s5:List Re) (s6 s7:Int):Option (((List Re)×Int×Int)⊕(Unit⊕Bool)):=bif decide (s7<s6) then bif decide (0≤s7) then Za s5[s7.toNat]? none fun d5=>bif !d5.2.2.2.2.2 then some (.inr (.inr false)) else some (.inl (s5,s6,i64.wrap (s7+1))) else none else some (.inr (.inl PUnit.unit))
def ZnY:KB→Option (KB⊕(Qt⊕Qu)):=fun (a,b,c)=>Y4 a b c
def Zcf (x:KB):Option (Qt⊕Qu):=Zh ZnY Zl x
def ZqO:Nat→Tm→Prog (Nat×Tm):=(varP 0 (fun T h=>(rdS Zcr T h).map Zyg) Zcf (fun y=>.alt y (altE 2 Yt Ze0) (altE 1 Yu Ze1)) (fun _ _=>.fail))
def ZAV:Lpc:=⟨46,0,15,(fun base T=>.norm base (Zpu 0) T (ZqO base)),by kernel_rfl,by kernel_rfl,(loopU [] [] 40 1048576 8 (keep:=Zpu) (q:=ZqO) (by kernel_rfl) (Zv (s:=Zcr) (un:=Zyv) (by rfl) (fun _=>rfl) (ZW (Zn (s:=Yt) (un:=Ze0) (flat:=ZRh) (by rfl) (fun _=>rfl)) (Zn (s:=Yu) (un:=Ze1) (flat:=ZRi) (by rfl) (fun _=>rfl))) (step:=ZnY) (fun _=>by kernel_rfl) (fun _ _ e=>⟨_,e⟩) (ZV (Zm 2 Yt Ze0) (Zm 1 Yu Ze1)) (ZB.fail _ _)))⟩
def Zqw (a0:List Re):Option Bool:=Za (Zcf (a0,(a0.length:Int),0)) none fun d3=>Sum.elim (fun e4=>some true) (fun e4=>some e4) d3
def Zha (x:(List Re)×Unit):Option Bool:=Zqw x.1
def ZuY:=conP false ZJk (.dat .bool) Zha
theorem ZJZ:Zf prog 46 ZuY:=Ze (calU [] [ZAV] 40 1048576 8 46) false (by rfl) (by rfl) (fun x r e=>(Zk _ _ _ _ _ _ _).trans ((show _=Zha x by kernel_rfl).trans e)) (.inr fun _=>rfl)
def Zbc  (s5:(List Re)) (i:Nat)  (d:Re):Option (Unit⊕(Qt⊕Qu)):=
 bif !d.2.2.2.2.2 then
  some (.inr (.inr false))
 else some (.inl ())
def ZnR  (s5:(List Re)):Option (Qt⊕Qu):=
 some (.inl PUnit.unit)
abbrev Zyr  (s5:(List Re)) (i:Nat) (s:Unit):KB:=(s5,(s5.length:Int),(i:Int))
def ZgF  (s5:(List Re)) (s:Unit):Option (Qt⊕Qu):=Zp (fun i s d=>Zbc  s5 i  d) (fun s=>ZnR  s5 ) 0 s5 s
theorem Zyn  (s5:(List Re)) (s:Unit) (hl:s5.length<9223372036854775807):Zcf (s5,(s5.length:Int),0)=ZgF  s5 s:=by
 unfold Zcf ZgF
 refine Zs s5 (Zyr  s5) _ _ ?_ ?_ s (by unfold Zl;omega)
 ·intro i s d hi hd
  have e1:decide ((i:Int)<(s5.length:Int))=true:=dT0 (by omega)
  have e2:decide (0≤(i:Int))=true:=dT0 (by omega)
  have e3:Int.toNat (i:Int)=i:=tN0 i
  have e4:=Zq hi (Nat.le_of_lt hl)
  show Y4 (s5) ((s5.length:Int)) ((i:Int))=upd _ (Zbc  s5 i  d)
  unfold Y4 Zbc
  simp only [e1,e2,e3,e4,hd,cond_true,cond_false,Zb,ZC,ZF,ZD,ZI,ZJ,ZE]
 ·intro s
  have e1:decide ((s5.length:Int)<(s5.length:Int))=false:=dF0 (by omega)
  show Y4 (s5) ((s5.length:Int)) ((s5.length:Int))=_
  unfold Y4 ZnR
  rw [e1]
  rfl
abbrev Zx1:Type:=((List Int)×Int×Int×(List Int)×(List Int)×Int×(List C)×Int×Bool×(List En)×Int×Bool×(List Re)×(List Int)×(List Int)×Int×(List C)×(List Re))
abbrev Zx2:Type:=((List Int)×Int×Int×(List Int)×(List Int)×Int×(List C)×Int×Bool×Int×Bool×(List Int)×(List Int)×Int×(List C)×(List Re))
abbrev Zx3:Type:=((List Int)×(List Int)×(List Int)×Int×(List C)×Int×Bool×(List En)×Int×Bool×(List Re)×(List Re))
abbrev Zx4:Type:=((List Int)×Bool×(List Int)×(List Int)×Int×(List C)×Int×Bool×Int×Bool×(List Re)×(List En))
abbrev Zx5:Type:=((List Int)×(List Int)×(List Int)×Int×(List C)×Int×Bool×Int×Bool×(List Re))
def ZQr:List Sh:=[.dat tU]
def Zod:Nat→List Nat:=fun c=>bif c.beq 0 then [0,2,4,14,15] else [0,2]
def Zoc:Nat→List Nat:=fun c=>bif c.beq 0 then [1,2,3,4,5] else [2,3]
def Zq3:List Con:=[⟨43,Zuv,ZE2⟩,⟨45,ZHj,ZTM⟩,⟨46,ZuY,ZJZ⟩,⟨24,Zig,ZlG⟩,⟨73,ZwI,ZLM⟩,⟨72,ZHi,ZTL⟩,⟨74,ZEU,ZQ2⟩]
def ZhW:StS:=⟨[(0,.ptr 2 0),(2,.sl (.int .i64)),(4,.ptr 5 0),(14,.int .i64),(15,.int .i64)],[(0,.box [.sl (.int .i64),.sl (.int .i64),.int .i64,.sl tC]),(1,.box [.nil,.nil,.int .i64,.bool]),(2,.box [.row 6,.sl tEn,.int .i64,.bool]),(3,.row tR),(5,.box [.sl (.int .i64),.sl (.int .i64),.int .i64,.sl tC]),(6,.row tR)],7⟩
def ZaE:StS:=⟨[(0,.ptr 2 0),(2,.sl (.int .i64))],[(0,.box [.sl (.int .i64),.sl (.int .i64),.int .i64,.sl tC]),(1,.box [.nil,.nil,.int .i64,.bool]),(2,.box [.row 5,.sl tEn,.int .i64,.bool]),(3,.row tR),(5,.row tR)],6⟩
abbrev ZcM:=Zx1
def ZFI:StD ZhW→ZcM:=fun ((_,a,_,b,c,_),((d,e,f,g,_),(_,_,h,i,_),(_,j,k,l,_),m,(n,o,p,q,_),r,_))=>(a,b,c,d,e,f,g,h,i,j,k,l,m,n,o,p,q,r)
def ZGO:ZcM→StD ZhW:=fun (a,b,c,d,e,f,g,h,i,j,k,l,m,n,o,p,q,r)=>(((),a,(),b,c,()),((d,e,f,g,()),((),(),h,i,()),((),j,k,l,()),m,(n,o,p,q,()),r,()))
abbrev Zek:=Zx3
def ZWM:StD ZaE→Zek:=fun ((_,a,_),((b,c,d,e,_),(_,_,f,g,_),(_,h,i,j,_),k,l,_))=>(a,b,c,d,e,f,g,h,i,j,k,l)
def Zj0:Zek→StD ZaE:=fun (a,b,c,d,e,f,g,h,i,j,k,l)=>(((),a,()),((b,c,d,e,()),((),(),f,g,()),((),h,i,j,()),k,l,()))
def Zmb (s2:List Int) (s14 s15:Int) (b0 b0_1:List Int) (b0_2:Int) (b0_3:List C) (b1:Int) (b1_1:Bool) (b2:List En) (b2_1:Int) (b2_2:Bool) (b3:List Re) (b5 b5_1:List Int) (b5_2:Int) (b5_3:List C) (b6:List Re):Option (Zx1⊕Zx3):=bif decide (s15<s14) then Za (Ya ((b5,b5_1,b5_2,b5_3),s15,b2,())) none fun d22=>bif decide ((b6.length+[d22].length+1)*112≤lim) then some (.inl (s2,s14,i64.wrap (s15+1),b0,b0_1,b0_2,b0_3,b1,b1_1,b2,b2_1,b2_2,b3,b5,b5_1,b5_2,b5_3,b6++[d22])) else none else some (.inr (s2,b0,b0_1,b0_2,b0_3,b1,b1_1,b2,b2_1,b2_2,b3,b6))
def ZbS:ZcM→Option (ZcM⊕Zek):=fun (a,b,c,d,e,f,g,h,i,j,k,l,m,n,o,p,q,r)=>Zmb a b c d e f g h i j k l m n o p q r
def Zhj (x:ZcM):Option Zek:=Zh ZbS Zl x
def ZhV:StS:=⟨[(0,.ptr 2 0),(2,.sl (.int .i64)),(4,.ptr 3 0),(14,.int .i64),(15,.int .i64)],[(0,.box [.sl (.int .i64),.sl (.int .i64),.int .i64,.sl tC]),(1,.box [.nil,.nil,.int .i64,.bool]),(2,.box [.row 4,.nil,.int .i64,.bool]),(3,.box [.sl (.int .i64),.sl (.int .i64),.int .i64,.sl tC]),(4,.row tR)],5⟩
def ZaD:StS:=⟨[(0,.ptr 2 0),(2,.sl (.int .i64))],[(0,.box [.sl (.int .i64),.sl (.int .i64),.int .i64,.sl tC]),(1,.box [.nil,.nil,.int .i64,.bool]),(2,.box [.row 3,.nil,.int .i64,.bool]),(3,.row tR)],4⟩
abbrev ZcL:=Zx2
def ZFH:StD ZhV→ZcL:=fun ((_,a,_,b,c,_),((d,e,f,g,_),(_,_,h,i,_),(_,_,j,k,_),(l,m,n,o,_),p,_))=>(a,b,c,d,e,f,g,h,i,j,k,l,m,n,o,p)
def ZGN:ZcL→StD ZhV:=fun (a,b,c,d,e,f,g,h,i,j,k,l,m,n,o,p)=>(((),a,(),b,c,()),((d,e,f,g,()),((),(),h,i,()),((),(),j,k,()),(l,m,n,o,()),p,()))
abbrev Zej:=Zx5
def ZWL:StD ZaD→Zej:=fun ((_,a,_),((b,c,d,e,_),(_,_,f,g,_),(_,_,h,i,_),j,_))=>(a,b,c,d,e,f,g,h,i,j)
def ZjZ:Zej→StD ZaD:=fun (a,b,c,d,e,f,g,h,i,j)=>(((),a,()),((b,c,d,e,()),((),(),f,g,()),((),(),h,i,()),j,()))
def ZGB (s2:List Int) (s14 s15:Int) (b0 b0_1:List Int) (b0_2:Int) (b0_3:List C) (b1:Int) (b1_1:Bool) (b2:Int) (b2_1:Bool) (b3 b3_1:List Int) (b3_2:Int) (b3_3:List C) (b4:List Re):Option (Zx2⊕Zx5):=bif decide (s15<s14) then Za (Ya ((b3,b3_1,b3_2,b3_3),s15,[],())) none fun d20=>bif decide ((b4.length+[d20].length+1)*112≤lim) then some (.inl (s2,s14,i64.wrap (s15+1),b0,b0_1,b0_2,b0_3,b1,b1_1,b2,b2_1,b3,b3_1,b3_2,b3_3,b4++[d20])) else none else some (.inr (s2,b0,b0_1,b0_2,b0_3,b1,b1_1,b2,b2_1,b4))
def Zr4:ZcL→Option (ZcL⊕Zej):=fun (a,b,c,d,e,f,g,h,i,j,k,l,m,n,o,p)=>ZGB a b c d e f g h i j k l m n o p
def ZG4 (x:ZcL):Option Zej:=Zh Zr4 Zl x
def Zxu:Nat→Tm→Prog (Nat×Tm):=(varP 3 (fun T h=>(rdS ZhV T h).map ZFH) ZG4 (altE 2 ZaD ZjZ) (varP 5 (fun T h=>(rdS ZhW T h).map ZFI) Zhj (altE 2 ZaE Zj0) (fun _ _=>.fail)))
def Zoh:Lpc:=⟨44,0,58,(slP [(0,0,tR)] [(0,1)] [] (Zod 0) (fun base T=>.norm base (Zod 0) T (Zxu base))),by kernel_rfl,by kernel_rfl,(ZLJ (loopU Zq3 [] 40 1048576 8 (keep:=Zod) (q:=Zxu) (by kernel_rfl) (Zv (s:=ZhV) (un:=ZGN) (by rfl) (fun _=>rfl) (Zn (s:=ZaD) (un:=ZjZ) (flat:=ZWL) (by rfl) (fun _=>rfl)) (step:=Zr4) (fun _=>by kernel_rfl) (fun _ _ e=>⟨_,e⟩) (Zm 2 ZaD ZjZ) (Zv (s:=ZhW) (un:=ZGO) (by rfl) (fun _=>rfl) (Zn (s:=ZaE) (un:=Zj0) (flat:=ZWM) (by rfl) (fun _=>rfl)) (step:=ZbS) (fun _=>by kernel_rfl) (fun _ _ e=>⟨_,e⟩) (Zm 2 ZaE Zj0) (ZB.fail _ _)))))⟩
abbrev Z0S:=cxU Zq3 [Zoh] 40 1048576
def ZhU:StS:=⟨[(1,.ptr 0 0),(2,.ptr 1 0),(3,.ptr 2 0),(4,.sl (.int .i64)),(5,.bool)],[(0,.box [.sl (.int .i64),.sl (.int .i64),.int .i64,.sl tC]),(1,.box [.nil,.nil,.int .i64,.bool]),(2,.box [.row 3,.row 4,.int .i64,.bool]),(3,.row tR),(4,.row tEn)],5⟩
def ZaC:StS:=⟨[(2,.ptr 0 0),(3,.ptr 1 0)],[(0,.box [.nil,.nil,.int .i64,.bool]),(1,.box [.row 2,.row 3,.int .i64,.bool]),(2,.row tR),(3,.row tEn)],4⟩
abbrev ZcK:=Zx4
def ZFG:StD ZhU→ZcK:=fun ((_,_,_,a,b,_),((c,d,e,f,_),(_,_,g,h,_),(_,_,i,j,_),k,l,_))=>(a,b,c,d,e,f,g,h,i,j,k,l)
def ZGM:ZcK→StD ZhU:=fun (a,b,c,d,e,f,g,h,i,j,k,l)=>(((),(),(),a,b,()),((c,d,e,f,()),((),(),g,h,()),((),(),i,j,()),k,l,()))
abbrev Zei:=(Int×Bool×Int×Bool×(List Re)×(List En))
def ZWK:StD ZaC→Zei:=fun ((_,_,_),((_,_,a,b,_),(_,_,c,d,_),e,f,_))=>(a,b,c,d,e,f)
def ZjY:Zei→StD ZaC:=fun (a,b,c,d,e,f)=>(((),(),()),(((),(),a,b,()),((),(),c,d,()),e,f,()))
def Zgw (s4:List Int) (s5:Bool) (b0 b0_1:List Int) (b0_2:Int) (b0_3:List C) (b1:Int) (b1_1:Bool) (b2:Int) (b2_1:Bool) (b3:List Re) (b4:List En):Option (Zx4⊕(Int×Bool×Int×Bool×(List Re)×(List En))):=bif !s5 then bif decide (b2<20) then Za (Zhj (s4,(b0_3.length:Int),0,b0,b0_1,b0_2,b0_3,b1,b1_1,b4,i64.wrap (b2+1),b2_1,b3,b0,b0_1,b0_2,b0_3,[])) none fun d16=>Za (Znw (d16.2.2.2.2.2.2.2.2.2.2.2,())) none fun d17=>Za (ZvW (d16.2.2.2.2.2.2.2.1,d17,())) none fun d18=>bif decide (d16.2.2.2.2.2.2.2.2.1>3) then Za (Zs4 (d16.2.2.2.2.2.2.2.1,d18,d16.1,())) none fun d19=>Za (Zp6 (d19,d16.2.2.2.2.2.2.2.1,())) none fun d20=>bif d20 then Za (Zha (d16.2.2.2.2.2.2.2.2.2.2.2,())) none fun d21=>some (.inl (s4,d20,d16.2.1,d16.2.2.1,d16.2.2.2.1,d16.2.2.2.2.1,d16.2.2.2.2.2.1,d16.2.2.2.2.2.2.1,d16.2.2.2.2.2.2.2.2.1,d21,d16.2.2.2.2.2.2.2.2.2.2.2,d19)) else some (.inl (s4,d20,d16.2.1,d16.2.2.1,d16.2.2.2.1,d16.2.2.2.2.1,d16.2.2.2.2.2.1,d16.2.2.2.2.2.2.1,d16.2.2.2.2.2.2.2.2.1,false,d16.2.2.2.2.2.2.2.2.2.2.2,d19)) else Za (Zp6 (d18,d16.2.2.2.2.2.2.2.1,())) none fun d19=>bif d19 then Za (Zha (d16.2.2.2.2.2.2.2.2.2.2.2,())) none fun d20=>some (.inl (s4,d19,d16.2.1,d16.2.2.1,d16.2.2.2.1,d16.2.2.2.2.1,d16.2.2.2.2.2.1,d16.2.2.2.2.2.2.1,d16.2.2.2.2.2.2.2.2.1,d20,d16.2.2.2.2.2.2.2.2.2.2.2,d18)) else some (.inl (s4,d19,d16.2.1,d16.2.2.1,d16.2.2.2.1,d16.2.2.2.2.1,d16.2.2.2.2.2.1,d16.2.2.2.2.2.2.1,d16.2.2.2.2.2.2.2.2.1,false,d16.2.2.2.2.2.2.2.2.2.2.2,d18)) else some (.inr (b1,b1_1,b2,b2_1,b3,b4))
 else some (.inr (b1,b1_1,b2,b2_1,b3,b4))
def HL:ZcK→Option (ZcK⊕Zei):=fun (a,b,c,d,e,f,g,h,i,j,k,l)=>Zgw a b c d e f g h i j k l
def Zhi (x:ZcK):Option Zei:=Zh HL Zl x
def Zxt:Nat→Tm→Prog (Nat×Tm):=(varP 0 (fun T h=>(rdS ZhU T h).map ZFG) Zhi (altE 2 ZaC ZjY) (fun _ _=>.fail))
def ZJD:Lpc:=⟨18,0,38,(ownP [(2,0,tR),(2,1,tEn),(2,0,tR),(2,1,tEn),(2,0,tR),(2,1,tEn),(2,0,tR),(2,1,tEn)] [] (Zoc 0) (fun base T=>.norm base (Zoc 0) T (Zxt base))),by kernel_rfl,by kernel_rfl,(Ja (loopU Zq3 [Zoh] 40 1048576 8 (keep:=Zoc) (q:=Zxt) (by kernel_rfl) (Zv (s:=ZhU) (un:=ZGM) (by rfl) (fun _=>rfl) (Zn (s:=ZaC) (un:=ZjY) (flat:=ZWK) (by rfl) (fun _=>rfl)) (step:=HL) (fun _=>by kernel_rfl) (fun _ _ e=>⟨_,e⟩) (Zm 2 ZaC ZjY) (ZB.fail _ _))))⟩
def Zfa (a0:U):Option RRe:=Za (Zlv (a0,())) none fun d5=>Za (Zhi (d5,false,a0.1,a0.2.1,a0.2.2.1,a0.2.2.2,0,false,0,false,[],[])) none fun d6=>some (d6.2.2.2.2.1,d6.2.2.2.2.2,d6.2.2.1,d6.2.2.2.1)
def QS (x:U×Unit):Option RRe:=Zfa x.1
def Zg3:=conP true ZQr (.dat tRR) QS
theorem Zlq:Zf prog 18 Zg3:=Ze (calU Zq3 [Zoh,ZJD] 40 1048576 8 18) true (by rfl) (by rfl) (fun x r e=>(Zk _ _ _ _ _ _ _).trans ((show _=QS x by kernel_rfl).trans e)) (.inl rfl)
abbrev Zya:Type:=((List Int)×Int×(List Int)×(List Int)×Int×(List C)×Int×Bool×(List En)×Int×Bool×(List Re)×(List En))
abbrev Zyb:Type:=((List Int)×(List Int)×(List Int)×Int×(List C)×Int×Bool×(List En)×Int×Bool×(List Re)×(List En))
abbrev Zyc:Type:=((List Int)×Bool×(List Int)×(List Int)×Int×(List C)×Int×Bool×Int×Bool×(List Re)×(List En))
abbrev ZcR:=Zya
abbrev Zep:=Zyb
def Zmd (s4:List Int) (s7:Int) (b0 b0_1:List Int) (b0_2:Int) (b0_3:List C) (b1:Int) (b1_1:Bool) (b2:List En) (b2_1:Int) (b2_2:Bool) (b3:List Re) (b4:List En):Option (Zya⊕Zyb):=bif decide (s7<(b0_3.length:Int)) then Za (Zid ((b0,b0_1,b0_2,b0_3),s7,b2,())) none fun d18=>bif decide ((b3.length+[d18].length+1)*112≤lim) then Za (Kx (b4,d18.2.1,())) none fun d19=>some (.inl (s4,i64.wrap (s7+1),b0,b0_1,b0_2,b0_3,b1,b1_1,b2,b2_1,b2_2,b3++[d18],d19)) else none else some (.inr (s4,b0,b0_1,b0_2,b0_3,b1,b1_1,b2,b2_1,b2_2,b3,b4))
def ZbU:ZcR→Option (ZcR⊕Zep):=fun (a,b,c,d,e,f,g,h,i,j,k,l,m)=>Zmd a b c d e f g h i j k l m
def Zhp (x:ZcR):Option Zep:=Zh ZbU Zl x
abbrev ZcP:=Zyc
abbrev Zen:=(Bool×Int×Bool×Int×Bool×(List Re)×(List En))
def Zgy (s4:List Int) (s5:Bool) (b0 b0_1:List Int) (b0_2:Int) (b0_3:List C) (b1:Int) (b1_1:Bool) (b2:Int) (b2_1:Bool) (b3:List Re) (b4:List En):Option (Zyc⊕(Bool×Int×Bool×Int×Bool×(List Re)×(List En))):=bif !s5 then bif decide (b2<20) then Za (Zhp (s4,0,b0,b0_1,b0_2,b0_3,b1,b1_1,b4,i64.wrap (b2+1),b2_1,[],[])) none fun d17=>Za (Kx (d17.2.2.2.2.2.2.2.1,d17.2.2.2.2.2.2.2.2.2.2.2,())) none fun d18=>bif decide (d17.2.2.2.2.2.2.2.2.1>3) then Za (ZoQ (d17.2.2.2.2.2.2.2.1,d18,d17.1,())) none fun d19=>Za (WI (d19,d17.2.2.2.2.2.2.2.1,())) none fun d20=>some (.inl (d17.1,d20,d17.2.1,d17.2.2.1,d17.2.2.2.1,d17.2.2.2.2.1,d17.2.2.2.2.2.1,d17.2.2.2.2.2.2.1,d17.2.2.2.2.2.2.2.2.1,d17.2.2.2.2.2.2.2.2.2.1,d17.2.2.2.2.2.2.2.2.2.2.1,d19)) else Za (WI (d18,d17.2.2.2.2.2.2.2.1,())) none fun d19=>some (.inl (d17.1,d19,d17.2.1,d17.2.2.1,d17.2.2.2.1,d17.2.2.2.2.1,d17.2.2.2.2.2.1,d17.2.2.2.2.2.2.1,d17.2.2.2.2.2.2.2.2.1,d17.2.2.2.2.2.2.2.2.2.1,d17.2.2.2.2.2.2.2.2.2.2.1,d18)) else some (.inr (s5,b1,b1_1,b2,b2_1,b3,b4)) else some (.inr (s5,b1,b1_1,b2,b2_1,b3,b4))
def HN:ZcP→Option (ZcP⊕Zen):=fun (a,b,c,d,e,f,g,h,i,j,k,l)=>Zgy a b c d e f g h i j k l
def Zho (x:ZcP):Option Zen:=Zh HN Zl x
abbrev ZcS:=(Int×Int×Bool×Int×Bool×(List Re)×(List En))
abbrev Zeq:=(Int×Bool×Int×Bool×(List Re)×(List En))
def Zme (s10 b0:Int) (b0_1:Bool) (b1:Int) (b1_1:Bool) (b2:List Re) (b3:List En):Option ((Int×Int×Bool×Int×Bool×(List Re)×(List En))⊕(Int×Bool×Int×Bool×(List Re)×(List En))):=bif decide (s10<(b2.length:Int)) then bif b1_1 then bif decide (0≤s10) then Za b2[s10.toNat]? none fun d12=>Za b2[s10.toNat]? none fun d13=>some (.inl (i64.wrap (s10+1),b0,b0_1,b1,d13.2.2.2.2.2,b2,b3)) else none else some (.inl (i64.wrap (s10+1),b0,b0_1,b1,false,b2,b3)) else some (.inr (b0,b0_1,b1,b1_1,b2,b3))
def ZbV:ZcS→Option (ZcS⊕Zeq):=fun (a,b,c,d,e,f,g)=>Zme a b c d e f g
def Zhq (x:ZcS):Option Zeq:=Zh ZbV Zl x
def ZzK (a0:U):Option RRe:=Za (Zjk (a0,())) none fun d6=>Za (Zho (d6,false,a0.1,a0.2.1,a0.2.2.1,a0.2.2.2,0,false,0,false,[],[])) none fun d7=>Za (Zhq (0,d7.2.1,d7.2.2.1,d7.2.2.2.1,d7.1,d7.2.2.2.2.2)) none fun d8=>some (d8.2.2.2.2.1,d8.2.2.2.2.2,d8.2.2.1,d8.2.2.2.1)
section
open Go.Proofs
def sumC (r:List C):Nat:=(r.map fun c=>c.2.length).sum
theorem Zzj (c:C) (r:List C):sumC (c::r)=c.2.length+sumC r:=by simp [sumC]
theorem Z2o (U0 U1:List Int) (U2:Int) (U3:List C):∀ (l:List C) (i:Nat) (s:Int),(∀ c∈l,c.2.length≤60)→0≤s→s≤45→
  (Zp (fun i s d=>Qz 45 U0 U1 U2 U3 i s d) (fun s=>HK 45 U0 U1 U2 U3 s) i l s=some (.inl (U0,U1,U2,U3))∧s+(sumC l:Int)≤45) ∨
  Zp (fun i s d=>Qz 45 U0 U1 U2 U3 i s d) (fun s=>HK 45 U0 U1 U2 U3 s) i l s=some (.inr (true,U0,U1,U2,U3))
 | [],i,s,_,_,h=>.inl ⟨rfl,by simpa [sumC] using h⟩
 | d::r,i,s,hl,h0,h1=>by
  simp only [Zp]
  have hd:=hl d (by simp)
  have h:Qz 45 U0 U1 U2 U3 i s d=bif decide (i64.wrap (s+(d.2.length:Int))>45) then some (.inr (.inr (true,U0,U1,U2,U3))) else some (.inl (i64.wrap (s+(d.2.length:Int)))):=rfl
  have w:i64.wrap (s+(d.2.length:Int))=s+(d.2.length:Int):=ZdN (by omega) (by omega)
  rw [h,w]
  by_cases q:s+(d.2.length:Int)>45
  ·rw [dT0 q];exact .inr rfl
  ·rw [dF0 q]
   rcases Z2o U0 U1 U2 U3 r (i+1) (s+(d.2.length:Int)) (fun c hc=>hl c (by simp [hc])) (by omega) (by omega) with k | k
   ·exact .inl ⟨k.1,by rw [Zzj];have:=k.2;omega⟩
   ·exact .inr k
theorem ZR8 (most:Int) (U0 U1:List Int) (U2:Int) (U3:List C):∀ (l:List C) (i:Nat) (s:Int),
  Zp (fun i s d=>Qz most U0 U1 U2 U3 i s d) (fun s=>HK most U0 U1 U2 U3 s) i l s=some (.inl (U0,U1,U2,U3)) ∨
  Zp (fun i s d=>Qz most U0 U1 U2 U3 i s d) (fun s=>HK most U0 U1 U2 U3 s) i l s=some (.inr (true,U0,U1,U2,U3))
 | [],i,s=>.inl rfl
 | d::r,i,s=>by
  simp only [Zp]
  have h:Qz most U0 U1 U2 U3 i s d=bif decide (i64.wrap (s+(d.2.length:Int))>most) then some (.inr (.inr (true,U0,U1,U2,U3))) else some (.inl (i64.wrap (s+(d.2.length:Int)))):=rfl
  rw [h]
  cases decide (i64.wrap (s+(d.2.length:Int))>most)
  ·exact ZR8 most U0 U1 U2 U3 r (i+1) _
  ·exact .inr rfl
theorem ZzU (u:U) (hs:sizeU u):∃ b,Zta u 45=some b∧(b=false→unitOK u∧sumC u.2.2.2≤45):=by
 unfold Zta Zpm
 by_cases h1:(u.2.2.2.length:Int)>4
 ·rw [dT0 h1];exact ⟨_,rfl,fun k=>nomatch k⟩
 by_cases h2:(u.1.length:Int)>10
 ·rw [dF0 h1,dT0 h2];exact ⟨_,rfl,fun k=>nomatch k⟩
 by_cases h3:(u.2.1.length:Int)>10
 ·rw [dF0 h1,dF0 h2,dT0 h3];exact ⟨_,rfl,fun k=>nomatch k⟩
 rw [dF0 h1,dF0 h2,dF0 h3]
 simp only [cond_false]
 have q:=ZGd 45 u.1 u.2.1 u.2.2.1 u.2.2.2 0 hs.2.2.1
 have q2:ZcE (45,0,0,u)=_:=q
 rw [q2]
 unfold Zl3
 obtain ⟨b,hb,hk⟩:=ZPD u hs
 have hb2:ZtA (u.1,u.2.1,u.2.2.1,u.2.2.2)=some b:=hb
 cases b
 ·rcases ZR8 45 u.1 u.2.1 u.2.2.1 u.2.2.2 u.2.2.2 0 0 with h | h
  ·rw [h]
   simp only [Zb,Sum.elim_inl,hb2]
   exact ⟨_,rfl,fun k=>nomatch k⟩
  ·rw [h]
   exact ⟨true,rfl,fun k=>nomatch k⟩
 ·have hu:=hk rfl
  rcases Z2o u.1 u.2.1 u.2.2.1 u.2.2.2 u.2.2.2 0 0 (fun c hc=>(hu.ts c hc).n.2) (by decide) (by decide) with ⟨h,h'⟩ | h
  ·rw [h]
   simp only [Zb,Sum.elim_inl,hb2]
   exact ⟨_,rfl,fun _=>⟨hu,by omega⟩⟩
  ·rw [h]
   exact ⟨true,rfl,fun k=>nomatch k⟩
def thrR (u:U) (tab:List En) (i:Nat) (r:List C):List Re:=r.mapIdx fun j c=>resV u ((i+j:Nat):Int) tab (Zt u) c
def stoR (s:List En) (r:List Re):List En:=r.foldl (fun s x=>addT Zg s x.2.1) s
theorem ZxX (u:U) (tab:List En) (i:Nat) (c:C) (r:List C):thrR u tab i (c::r)=resV u (i:Int) tab (Zt u) c::thrR u tab (i+1) r:=by
 unfold thrR
 rw [List.mapIdx_cons]
 simp only [Nat.add_zero]
 congr 2
 funext j c
 rw [show i+(j+1)=i+1+j by omega]
theorem ZBU (u:U) (tab:List En) (i:Nat) (r:List C):(thrR u tab i r).length=r.length:=by simp [thrR]
section
variable {u:U} {tab:List En}
theorem Zwt (hu:unitOK u) (hl:tabOK tab) (hn:tab.length≤1000) {i:Nat} {c:C} (hc:u.2.2.2[i]? = some c):tabOK (resV u (i:Int) tab (Zt u) c).2.1∧(resV u (i:Int) tab (Zt u) c).2.1.length≤c.2.length∧Zki u (i:Int) tab=some (resV u (i:Int) tab (Zt u) c)∧ZlB u (i:Int) tab=some (resV u (i:Int) tab (Zt u) c):=by
 obtain ⟨r1,r2,v,g⟩:=ZnL (t:=(i:Int)) hu (by omega) hl hn (by rw [tN0];exact hc)
 exact ⟨g.k,g.a,r1,r2⟩
theorem ZT7 (hu:unitOK u) (hl:tabOK tab) (hn:tab.length≤1000):∀ (r:List C) (i:Nat) (s:List En),u.2.2.2.drop i=r→tabOK s→tabOK (stoR s (thrR u tab i r))∧(stoR s (thrR u tab i r)).length≤s.length+sumC r
 | [],i,s,hd,hs=>⟨hs,by simp [stoR,thrR,sumC]⟩
 | c::r,i,s,hd,hs=>by
  have hc:u.2.2.2[i]? = some c:=by
   have:=congrArg (fun q=>q[0]?) hd
   simpa using this
  obtain ⟨h1,h2,_,_⟩:=Zwt hu hl hn hc
  have ih:=ZT7 hu hl hn r (i+1) (addT Zg s (resV u (i:Int) tab (Zt u) c).2.1) (by rw [← List.drop_drop,hd];rfl) (Zfk Zcb hs h1.a)
  have ln:=Zlz Zg (resV u (i:Int) tab (Zt u) c).2.1 s
  rw [ZxX,Zzj]
  exact ⟨ih.1,by have:=ih.2;show (stoR (addT Zg s (resV u (i:Int) tab (Zt u) c).2.1) (thrR u tab (i+1) r)).length≤_;omega⟩
theorem Z6e (hu:unitOK u) (hl:tabOK tab) (hn:tab.length≤1000) {s2:List Int} {b1:Int} {b1_1:Bool} {x:Int} {y:Bool} {b3:List Re} :
  Zhj (s2,(u.2.2.2.length:Int),0,u.1,u.2.1,u.2.2.1,u.2.2.2,b1,b1_1,tab,x,y,b3,u.1,u.2.1,u.2.2.1,u.2.2.2,[])=some (s2,u.1,u.2.1,u.2.2.1,u.2.2.2,b1,b1_1,tab,x,y,b3,thrR u tab 0 u.2.2.2):=by
 have ut:=hu.t
 have go:∀ (r:List C) (i:Nat) (s:List Re) (k:Nat),u.2.2.2.drop i=r→i+r.length=u.2.2.2.length→s.length≤i→
   Zh ZbS (k+r.length+1) (s2,(u.2.2.2.length:Int),(i:Int),u.1,u.2.1,u.2.2.1,u.2.2.2,b1,b1_1,tab,x,y,b3,u.1,u.2.1,u.2.2.1,u.2.2.2,s) =
    some (s2,u.1,u.2.1,u.2.2.1,u.2.2.2,b1,b1_1,tab,x,y,b3,s++thrR u tab i r):=by
  intro r
  induction r with
  | nil=>
   intro i s k hd hi hs
   have e:decide ((i:Int)<(u.2.2.2.length:Int))=false:=dF0 (by simp at hi;omega)
   simp only [Zh,ZbS,Zmb,e,cond_false]
   simp [thrR]
  | cons c r ih=>
   intro i s k hd hi hs
   rw [List.length_cons] at hi ⊢
   have hc:u.2.2.2[i]? = some c:=by
    have:=congrArg (fun q=>q[0]?) hd
    simpa using this
   have e:decide ((i:Int)<(u.2.2.2.length:Int))=true:=dT0 (by omega)
   have w:=Zq (i:=i) (n:=u.2.2.2.length) (by omega) (by omega)
   have f:Zki (u.1,u.2.1,u.2.2.1,u.2.2.2) (i:Int) tab=_:=(Zwt hu hl hn hc).2.2.1
   have lm:decide ((s.length+(0+1)+1)*112≤lim)=true:=dT0 (by unfold lim;omega)
   rw [show k+(r.length+1)+1=(k+r.length+1)+1 by omega,Zh,ZxX]
   simp only [ZbS,Zmb,e,cond_true,Ya,f,Zb,List.length_cons,List.length_nil,lm,w]
   have:=ih (i+1) (s++[resV u (i:Int) tab (Zt u) c]) k (by rw [← List.drop_drop,hd];rfl) (by omega) (by rw [List.length_append];simp;omega)
   rw [List.append_assoc] at this
   exact this
 unfold Zhj
 have:=go u.2.2.2 0 [] (Zl - u.2.2.2.length - 1) rfl (by simp) (by simp)
 rw [show Zl - u.2.2.2.length - 1+u.2.2.2.length+1=Zl by unfold Zl;omega,List.nil_append] at this
 exact this
theorem Z6i (hu:unitOK u) (hl:tabOK tab) (hn:tab.length≤1000) (h45:sumC u.2.2.2≤45) {s4:List Int} {b1:Int} {b1_1:Bool} {x:Int} {y:Bool} :
  Zhp (s4,0,u.1,u.2.1,u.2.2.1,u.2.2.2,b1,b1_1,tab,x,y,[],[])=some (s4,u.1,u.2.1,u.2.2.1,u.2.2.2,b1,b1_1,tab,x,y,thrR u tab 0 u.2.2.2,stoR [] (thrR u tab 0 u.2.2.2)):=by
 have ut:=hu.t
 have go:∀ (r:List C) (i:Nat) (s:List Re) (q:List En) (k:Nat),u.2.2.2.drop i=r→i+r.length=u.2.2.2.length→s.length≤i→tabOK q→q.length+sumC r≤45→
   Zh ZbU (k+r.length+1) (s4,(i:Int),u.1,u.2.1,u.2.2.1,u.2.2.2,b1,b1_1,tab,x,y,s,q) =
    some (s4,u.1,u.2.1,u.2.2.1,u.2.2.2,b1,b1_1,tab,x,y,s++thrR u tab i r,stoR q (thrR u tab i r)):=by
  intro r
  induction r with
  | nil=>
   intro i s q k hd hi hs _ _
   have e:decide ((i:Int)<(u.2.2.2.length:Int))=false:=dF0 (by simp at hi;omega)
   simp only [Zh,ZbU,Zmd,e,cond_false]
   simp [thrR,stoR]
  | cons c r ih=>
   intro i s q k hd hi hs hq hm
   rw [List.length_cons] at hi ⊢
   have hc:u.2.2.2[i]? = some c:=by
    have:=congrArg (fun q=>q[0]?) hd
    simpa using this
   have e:decide ((i:Int)<(u.2.2.2.length:Int))=true:=dT0 (by omega)
   have w:=Zq (i:=i) (n:=u.2.2.2.length) (by omega) (by omega)
   obtain ⟨k1,k2,_,k4⟩:=Zwt hu hl hn hc
   have f:ZlB (u.1,u.2.1,u.2.2.1,u.2.2.2) (i:Int) tab=_:=k4
   have lm:decide ((s.length+(0+1)+1)*112≤lim)=true:=dT0 (by unfold lim;omega)
   rw [Zzj] at hm
   have add:Zcp q (resV u (i:Int) tab (Zt u) c).2.1=some (addT Zg q (resV u (i:Int) tab (Zt u) c).2.1):=by rw [Zne _ _ (by omega),Zwy hq.e k1.a]
   have ln:=Zlz Zg (resV u (i:Int) tab (Zt u) c).2.1 q
   rw [show k+(r.length+1)+1=(k+r.length+1)+1 by omega,Zh,ZxX]
   simp only [ZbU,Zmd,e,cond_true,Zid,f,Zb,List.length_cons,List.length_nil,lm,Kx,add,w]
   have:=ih (i+1) (s++[resV u (i:Int) tab (Zt u) c]) (addT Zg q (resV u (i:Int) tab (Zt u) c).2.1) k (by rw [← List.drop_drop,hd];rfl) (by omega) (by rw [List.length_append];simp;omega) (Zfk Zcb hq k1.a) (by omega)
   rw [List.append_assoc] at this
   exact this
 unfold Zhp
 have:=go u.2.2.2 0 [] [] (Zl - u.2.2.2.length - 1) rfl (by simp) (by simp) Za5 (by simpa using h45)
 rw [show Zl - u.2.2.2.length - 1+u.2.2.2.length+1=Zl by unfold Zl;omega,List.nil_append] at this
 exact this
theorem Z1J (hu:unitOK u) (hl:tabOK tab) (hn:tab.length≤1000) (h45:sumC u.2.2.2≤45):Zsx (thrR u tab 0 u.2.2.2)=some (stoR [] (thrR u tab 0 u.2.2.2)):=by
 have ut:=hu.t
 have tl:=ZBU u tab 0 u.2.2.2
 unfold Zsx
 rw [ZzY _ [] (by omega)]
 unfold Zim
 generalize hL:thrR u tab 0 u.2.2.2=L at *
 have go:∀ (r:List C) (i j:Nat) (s:List En),u.2.2.2.drop i=r→tabOK s→s.length+sumC r≤45→Zp (fun i s d=>HT L i s d) (fun s=>Zii L s) j (thrR u tab i r) s=some (stoR s (thrR u tab i r)):=by
  intro r
  induction r with
  | nil=>exact fun i j s _ _ _=>rfl
  | cons c r ih=>
   intro i j s hd hs hm
   have hc:u.2.2.2[i]? = some c:=by
    have:=congrArg (fun q=>q[0]?) hd
    simpa using this
   obtain ⟨k1,k2,_,_⟩:=Zwt hu hl hn hc
   rw [Zzj] at hm
   have ln:=Zlz Zg (resV u (i:Int) tab (Zt u) c).2.1 s
   rw [ZxX,Qq (s':=addT Zg s (resV u (i:Int) tab (Zt u) c).2.1) (by unfold HT;simp only [Zhb,ZIe _ _ hs.srt (show s.length+(resV u (i:Int) tab (Zt u) c).2.1.length≤1000000000 by omega),Zb])]
   exact ih (i+1) (j+1) _ (by rw [← List.drop_drop,hd];rfl) (Zfk Zcb hs k1.a) (by omega)
 have:=go u.2.2.2 0 0 [] rfl Za5 (by simpa using h45)
 rw [hL] at this
 rw [this]
 rfl
theorem ZZ2 (l:List Re) (h:l.length≤1000):Zqw l=some (l.all fun r=>r.2.2.2.2.2):=by
 unfold Zqw
 rw [Zyn l () (by omega)]
 unfold ZgF
 rw [Vo (p:=fun _ r=>r.2.2.2.2.2) (o:=.inr false) l 0 fun j d hd=>?_,Zpn]
 ·cases l.all fun r=>r.2.2.2.2.2<;>rfl
 ·unfold Zbc
  cases d.2.2.2.2.2<;>rfl
end
end
section
open Go.Proofs
theorem ZYk {a b:List En} (ha:tabOK a) (hb:tabOK b):addT Zg a (addT Zg a b)=addT Zg a b:=by
 have j:=Zfk Zcb ha hb.a
 refine Zwu (ZlA ha.srt) (ZlA ha.srt) fun k=>?_
 rw [Zg2 k j.srt j.e ha.srt,Zg2 k hb.srt hb.e ha.srt]
 cases hu:tget a k with
 | none=>cases tget b k<;>rfl
 | some u=>
  have ou:=ZqB ha.e hu
  cases hv:tget b k with
  | none=>simp only [bothO,optV];rw [ZDa ou.2 ou.2 (ZdP u)]
  | some v=>
   have ov:=ZqB hb.e hv
   simp only [bothO,optV]
   rw [Zfb u (Zg u v),ZDa (by rw [ZDb,ou.2];rfl) ou.2 (ZSW u v)]
def nxtT (u:U) (tab:List En) (r:Int):List En:=
 if r>3 then addT (widF (Zt u)) tab (addT Zg tab (stoR [] (thrR u tab 0 u.2.2.2))) else addT Zg tab (stoR [] (thrR u tab 0 u.2.2.2))
def allD (l:List Re):Bool:=l.all fun r=>r.2.2.2.2.2
def outL (u:U):Nat→List Re→List En→Int→Bool→List Re×List En×Int×Bool
 | 0,R,tab,r,d=>(R,tab,r,d)
 | n+1,R,tab,r,d=>bif d then (R,tab,r,d) else outL u n (thrR u tab 0 u.2.2.2) (nxtT u tab (r+1)) (r+1) (decide (nxtT u tab (r+1)=tab))
section
variable {u:U} {tab:List En}
theorem ZXo (hu:unitOK u) (h45:sumC u.2.2.2≤45) {r:Int} (h:TInv u r tab) (h0:0≤r) (hr:r≤20):TInv u (r+1) (nxtT u tab (r+1))∧tabOK (stoR [] (thrR u tab 0 u.2.2.2))∧(stoR [] (thrR u tab 0 u.2.2.2)).length≤45∧tabOK (addT Zg tab (stoR [] (thrR u tab 0 u.2.2.2))):=by
 have hn:=h.n
 have hN:tab.length≤1000:=by omega
 obtain ⟨s1,s2⟩:=ZT7 hu h.k hN u.2.2.2 0 [] rfl Za5
 have s2:(stoR [] (thrR u tab 0 u.2.2.2)).length≤45:=by simp at s2;omega
 have j1:=Zfk Zcb h.k s1.a
 have l1:=Zlz Zg (stoR [] (thrR u tab 0 u.2.2.2)) tab
 have l2:=Zlz (widF (Zt u)) (addT Zg tab (stoR [] (thrR u tab 0 u.2.2.2))) tab
 have w1:=Zfk (Z3e (Zt u)) h.k j1.a
 refine ⟨⟨?_,?_⟩,s1,s2,j1⟩
 ·unfold nxtT
  split
  ·exact w1
  ·exact j1
 ·unfold nxtT
  split
  ·have:(addT (widF (Zt u)) tab (addT Zg tab (stoR [] (thrR u tab 0 u.2.2.2)))).length≤(addT Zg tab (stoR [] (thrR u tab 0 u.2.2.2))).length:=by
    rw [← ZUc h.k j1,List.length_map]
    have k1:addT rJoin tab (addT Zg tab (stoR [] (thrR u tab 0 u.2.2.2)))=addT Zg tab (addT Zg tab (stoR [] (thrR u tab 0 u.2.2.2))):=(Zwy h.k.e j1.a).symm
    rw [k1]
    have k2:addT Zg tab (addT Zg tab (stoR [] (thrR u tab 0 u.2.2.2)))=addT Zg tab (stoR [] (thrR u tab 0 u.2.2.2)):=ZYk h.k s1
    rw [k2]
    exact Nat.le_refl _
   omega
  ·omega
theorem ZXq (hu:unitOK u) (h45:sumC u.2.2.2≤45):∀ (n:Nat) (R:List Re) (tab:List En) (r:Int) (d:Bool) (k:Nat),0≤r→r+n=20→TInv u r tab→
  Zh HL (k+n+1) (Zt u,d,u.1,u.2.1,u.2.2.1,u.2.2.2,0,false,r,d&&allD R,R,tab) =
   some (0,false,(outL u n R tab r d).2.2.1,(outL u n R tab r d).2.2.2&&allD (outL u n R tab r d).1,(outL u n R tab r d).1,(outL u n R tab r d).2.1) ∧
  Zh HN (k+n+1) (Zt u,d,u.1,u.2.1,u.2.2.1,u.2.2.2,0,false,r,false,R,tab) =
   some ((outL u n R tab r d).2.2.2,0,false,(outL u n R tab r d).2.2.1,false,(outL u n R tab r d).1,(outL u n R tab r d).2.1) ∧
  TInv u 20 (outL u n R tab r d).2.1
 | 0,R,tab,r,d,k,h0,h1,v=>by
  have e:decide (r<20)=false:=dF0 (by omega)
  refine ⟨?_,?_,⟨v.k,by have:=v.n;show (tab.length:Int)≤_;omega⟩⟩
  ·simp only [Zh,HL,Zgw,e]
   cases d<;>rfl
  ·simp only [Zh,HN,Zgy,e]
   cases d<;>rfl
 | n+1,R,tab,r,true,k,h0,h1,v=>by
  refine ⟨?_,?_,⟨v.k,by have:=v.n;show (tab.length:Int)≤_;omega⟩⟩
  ·simp only [Zh,HL,Zgw,Bool.not_true,cond_false];rfl
  ·simp only [Zh,HN,Zgy,Bool.not_true,cond_false];rfl
 | n+1,R,tab,r,false,k,h0,h1,v=>by
  have e:decide (r<20)=true:=dT0 (by omega)
  have w:i64.wrap (r+1)=r+1:=ZdN (by omega) (by omega)
  have hst:(Zt u).length<9223372036854775807:=by have:=ZP2 u hu;omega
  obtain ⟨v',s1,s2,j1⟩:=ZXo hu h45 v h0 (by omega)
  have hn:=v.n
  have hn':=v'.n
  have hN:tab.length≤1000:=by omega
  have o1:=Z6e (s2:=Zt u) (b1:=0) (b1_1:=false) (x:=r+1) (y:=(false&&allD R)) (b3:=R) hu v.k hN
  have o2:=Z6i (s4:=Zt u) (b1:=0) (b1_1:=false) (x:=r+1) (y:=false) hu v.k hN h45
  have st:=Z1J hu v.k hN h45
  have tl:=ZBU u tab 0 u.2.2.2
  have ut:=hu.t
  have ar:=ZZ2 (thrR u tab 0 u.2.2.2) (by omega)
  have l1:=Zlz Zg (stoR [] (thrR u tab 0 u.2.2.2)) tab
  have jn:=ZYr tab (stoR [] (thrR u tab 0 u.2.2.2)) v.k.srt (by omega)
  have wd:=ZVC tab (addT Zg tab (stoR [] (thrR u tab 0 u.2.2.2))) (Zt u) hst v.k.srt (by omega)
  have ad:Zcp tab (stoR [] (thrR u tab 0 u.2.2.2))=some (addT Zg tab (stoR [] (thrR u tab 0 u.2.2.2))):=by rw [Zne _ _ (by omega),Zwy v.k.e s1.a]
  have wr:ZoZ tab (addT Zg tab (stoR [] (thrR u tab 0 u.2.2.2))) (Zt u)=some (addT (widF (Zt u)) tab (addT Zg tab (stoR [] (thrR u tab 0 u.2.2.2)))):=by
   rw [ZQL _ _ _ hst v.k.srt j1.srt (by omega),ZUc v.k j1]
  have ih:=ZXq hu h45 n (thrR u tab 0 u.2.2.2) (nxtT u tab (r+1)) (r+1) (decide (nxtT u tab (r+1)=tab)) k (by omega) (by omega) v'
  have sm:=ZYs (nxtT u tab (r+1)) tab (by omega)
  have sr:=Zxg (nxtT u tab (r+1)) tab (by omega)
  refine ⟨?_,?_,ih.2.2⟩
  ·refine Eq.trans ?_ ih.1
   rw [show k+(n+1)+1=(k+n+1)+1 by omega,Zh]
   simp only [HL,Zgw,e,w,Bool.not_false,cond_true,o1,Zb,Znw,st,ZvW,jn,Zs4,wd,Zp6,Zha,ar]
   unfold nxtT at sm ⊢
   by_cases q:r+1>3
   ·rw [if_pos q] at sm ⊢
    simp only [dT0 q,cond_true,sm,Zb]
    cases decide (addT (widF (Zt u)) tab (addT Zg tab (stoR [] (thrR u tab 0 u.2.2.2)))=tab)<;>rfl
   ·rw [if_neg q] at sm ⊢
    simp only [dF0 q,cond_false,sm,Zb]
    cases decide (addT Zg tab (stoR [] (thrR u tab 0 u.2.2.2))=tab)<;>rfl
  ·refine Eq.trans ?_ ih.2.1
   rw [show k+(n+1)+1=(k+n+1)+1 by omega,Zh]
   simp only [HN,Zgy,e,w,Bool.not_false,cond_true,o2,Zb,Kx,ad,ZoQ,wr,WI]
   unfold nxtT at sr ⊢
   by_cases q:r+1>3
   ·rw [if_pos q] at sr ⊢
    simp only [dT0 q,cond_true,sr,Zb]
   ·rw [if_neg q] at sr ⊢
    simp only [dF0 q,cond_false,sr,Zb]
theorem Z1S (tab:List En) (r:Int) (R:List Re) (hR:R.length≤1000) (d:Bool):Zhq (0,0,false,r,d,R,tab)=some (0,false,r,d&&allD R,R,tab):=by
 have go:∀ (q:List Re) (i:Nat) (s:Bool) (k:Nat),R.drop i=q→i+q.length=R.length→
   Zh ZbV (k+q.length+1) ((i:Int),0,false,r,s,R,tab)=some (0,false,r,s&&allD q,R,tab):=by
  intro q
  induction q with
  | nil=>
   intro i s k hd hi
   have e:decide ((i:Int)<(R.length:Int))=false:=dF0 (by simp at hi;omega)
   simp only [Zh,ZbV,Zme,e,cond_false]
   simp [allD]
  | cons c q ih=>
   intro i s k hd hi
   rw [List.length_cons] at hi ⊢
   have hc:R[i]? = some c:=by
    have:=congrArg (fun q=>q[0]?) hd
    simpa using this
   have e:decide ((i:Int)<(R.length:Int))=true:=dT0 (by omega)
   have e0:decide (0≤(i:Int))=true:=dT0 (by omega)
   have w:=Zq (i:=i) (n:=R.length) (by omega) (by omega)
   rw [show k+(q.length+1)+1=(k+q.length+1)+1 by omega,Zh]
   simp only [ZbV,Zme,e,e0,cond_true,tN0,hc,Zb,w]
   cases s
   ·exact ih (i+1) false k (by rw [← List.drop_drop,hd];rfl) (by omega)
   ·have:=ih (i+1) c.2.2.2.2.2 k (by rw [← List.drop_drop,hd];rfl) (by omega)
    rw [show (true&&allD (c::q))=(c.2.2.2.2.2&&allD q) from rfl]
    exact this
 unfold Zhq
 have:=go R 0 d (Zl - R.length - 1) rfl (by simp)
 rw [show Zl - R.length - 1+R.length+1=Zl by unfold Zl;omega] at this
 exact this
def outZ (u:U):List Re×List En×Int×Bool:=outL u 20 [] [] 0 false
def outVV (u:U):RRe:=((outZ u).1,(outZ u).2.1,(outZ u).2.2.1,(outZ u).2.2.2&&allD (outZ u).1)
theorem ZTh:∀ (n:Nat) (R:List Re) (tab:List En) (r:Int) (d:Bool),R.length≤u.2.2.2.length→(outL u n R tab r d).1.length≤u.2.2.2.length
 | 0,R,tab,r,d,h=>h
 | n+1,R,tab,r,true,h=>h
 | n+1,R,tab,r,false,h=>ZTh n _ _ _ _ (by rw [ZBU];exact Nat.le_refl _)
theorem Zxi (hu:unitOK u) (h45:sumC u.2.2.2≤45):Zfa u=some (outVV u)∧ZzK u=some (outVV u)∧TInv u 20 (outZ u).2.1:=by
 have q:=ZXq hu h45 20 [] [] 0 false 18446744073709551595 (by decide) (by decide) ⟨Za5,by simp⟩
 have hF:Zl=18446744073709551595+20+1:=rfl
 have ut:=hu.t
 have ol:=ZTh (u:=u) 20 [] [] 0 false (by simp)
 have rd:=Z1S (outZ u).2.1 (outZ u).2.2.1 (outZ u).1 (by show (outL u 20 [] [] 0 false).1.length≤_;omega) (outZ u).2.2.2
 refine ⟨?_,?_,q.2.2⟩
 ·unfold Zfa
  have q1:Zhi (Zt u,false,u.1,u.2.1,u.2.2.1,u.2.2.2,0,false,0,false,[],[])=some (0,false,(outZ u).2.2.1,(outZ u).2.2.2&&allD (outZ u).1,(outZ u).1,(outZ u).2.1):=by
   unfold Zhi
   rw [hF]
   exact q.1
  simp only [Zlv,ZKt u hu,Zb,q1]
  rfl
 ·unfold ZzK
  have q1:Zho (Zt u,false,u.1,u.2.1,u.2.2.1,u.2.2.2,0,false,0,false,[],[])=some ((outZ u).2.2.2,0,false,(outZ u).2.2.1,false,(outZ u).1,(outZ u).2.1):=by
   unfold Zho
   rw [hF]
   exact q.2.1
  simp only [Zjk,ZId u hu,Zb,q1,rd]
  rfl
end
end
def ZyF:List Sh:=[]
def ZBO:List Con:=[⟨18,Zg3,Zlq⟩]
def Vm:Option Bool:=Za (QS (([],[],0,[(0,[(14,0,0,0,0,0,0,0,0)])]),())) none fun d1=>bif d1.2.2.2 then bif d1.2.2.1==1 then bif (List.length d1.1:Int)==1 then some ((List.length d1.2.1:Int)==0) else some false else some false else some false
theorem ZMT:evGX (cxU ZBO [] 40 1048576) keeps 8 21 ZyF (.dat .bool) (():Unit)=Vm:=by kernel_rfl
def ZQ (x:Unit):Option Bool:=Vm
def ZhD:=conP true ZyF (.dat .bool) ZQ
theorem ZmD:Zf prog 21 ZhD:=Ze (calU ZBO [] 40 1048576 8 21) true (by rfl) (by rfl) (fun x r e=>(Zk _ _ _ _ _ _ _).trans ((ZMT ).trans e)) (.inl rfl)
def u16:U:=([],[],0,[(0,[(14,0,0,0,0,0,0,0,0)])])
theorem Z4B:unitOK u16∧sumC u16.2.2.2≤45:=by
 obtain ⟨b,h1,h2⟩:=ZzU u16 ⟨by decide,by decide,by decide,fun c hc=>by
  rw [List.mem_singleton.1 hc];decide⟩
 have h3:Zta u16 45=some false:=by kernel_rfl
 rw [h3] at h1
 exact h2 (Option.some.inj h1).symm
theorem ZsE:Vm=some true:=by
 have h:=(Zxi Z4B.1 Z4B.2).1
 unfold Vm
 show Za (Zfa u16) none _=_
 rw [h]
 kernel_rfl
theorem ZIh {u:U} (hu:unitOK u) (h45:sumC u.2.2.2≤45):∀ (n:Nat) (R:List Re) (tab:List En) (r:Int) (d:Bool),0≤r→r+n=20→TInv u r tab→(∃ Za5,TInv u 20 Za5∧R=thrR u Za5 0 u.2.2.2∧∃ r0,tab=nxtT u Za5 r0∧(d=true→tab=Za5))∨(d=false∧1≤n)→
  ∃ Za5,TInv u 20 Za5∧(outL u n R tab r d).1=thrR u Za5 0 u.2.2.2∧∃ r0,(outL u n R tab r d).2.1=nxtT u Za5 r0∧((outL u n R tab r d).2.2.2=true→(outL u n R tab r d).2.1=Za5)
 | 0,R,tab,r,d,h0,h1,v,h=>by
  rcases h with h | h
  ·exact h
  ·omega
 | n+1,R,tab,r,true,h0,h1,v,h=>by
  rcases h with h | h
  ·exact h
  ·cases h.1
 | n+1,R,tab,r,false,h0,h1,v,h=>by
  obtain ⟨v',_⟩:=ZXo hu h45 v h0 (by omega)
  exact ZIh hu h45 n _ _ (r+1) _ (by omega) (by omega) v' (.inl ⟨tab,⟨v.k,by have:=v.n;omega⟩,rfl,r+1,rfl,fun k=>of_decide_eq_true k⟩)
theorem Z0J {u:U} {tab:List En} {i:Nat} {x:Re} (h:(thrR u tab 0 u.2.2.2)[i]? = some x):∃ c,u.2.2.2[i]? = some c∧x=resV u (i:Int) tab (Zt u) c:=by
 unfold thrR at h
 rw [List.getElem?_mapIdx] at h
 cases e:u.2.2.2[i]? with
 | none=>rw [e] at h;cases h
 | some c=>
  rw [e,Option.map_some,Nat.zero_add] at h
  exact ⟨c,rfl,(Option.some.inj h).symm⟩
theorem ZZL (u:U) (t:Int) (e:E) (hu:unitOK u) (h0:0≤t) (ht:t<(u.2.2.2.length:Int)) (he:envOK u t e):WX u t e=some true:=by
 obtain ⟨c,hc,hv⟩:=he.c
 have co:=hu.ts c (mG0 hc)
 unfold WX
 rw [show decide (0≤t)=true from dT0 h0,hc]
 simp only [cond_true,Zb,ZZ8]
 have h2:=he.g
 have h3:=he.a
 have hm:=he.must
 have hy:=he.may
 rw [dT0 hv,dT0 (show (e.2.2.1.length:Int)=(u.1.length:Int) by omega),dT0 (show (e.2.2.2.1.length:Int)=(u.2.1.length:Int) by omega),dF0 (show ¬ e.2.2.2.2.1<0 by omega),dF0 (show ¬ e.2.2.2.2.2<0 by omega),dF0 (show ¬ e.2.2.2.2.1≥2147483648 by omega),dF0 (show ¬ e.2.2.2.2.2≥2147483648 by omega)]
 have b1:=co.v
 have b2:=hu.g
 have b3:=hu.a
 simp only [List.nil_append,List.length_append,List.length_nil,Nat.zero_add]
 rw [show decide ((e.2.1.length+1)*16≤lim)=true from dT0 (by unfold lim;omega),show decide ((e.2.1.length+e.2.2.1.length+1)*16≤lim)=true from dT0 (by unfold lim;omega),show decide ((e.2.1.length+e.2.2.1.length+e.2.2.2.1.length+1)*16≤lim)=true from dT0 (by unfold lim;omega)]
 simp only [Bool.not_true,cond_false,cond_true]
 rw [ZPi _ (by simp only [List.length_append];omega)]
 have:((e.2.1++e.2.2.1++e.2.2.2.1).all fun x=>isB x && !Zd x)=true:=List.all_eq_true.2 fun x hx=>by
  have:=he.v x hx
  rw [this.1,this.2];rfl
 rw [this]
 rfl
abbrev Zao:Type:=(Int×(List Int)×(List Int)×Int×(List C)×(List Re)×(List En)×Int×Bool)
def ZAk:List Sh:=[.dat tU]
def Zmx:Nat→List Nat:=fun c=>bif c.beq 0 then [1,3,4,5] else [1,2,3,4]
def Zmw:Nat→List Nat:=fun c=>bif c.beq 0 then [1,3,4] else [2]
def ZeY:List Con:=[⟨38,Zuy,ZE5⟩,⟨18,Zg3,Zlq⟩,⟨30,ZwL,ZIu⟩,⟨35,Zsk,ZBF⟩,⟨41,ZEP,ZQX⟩,⟨36,Zo9,ZxO⟩,⟨21,ZhD,ZmD⟩]
def Vq:StS:=⟨[(1,.ptr 0 0),(3,.ptr 1 0),(4,.int .i64),(5,.int .i64)],[(0,.box [.sl (.int .i64),.sl (.int .i64),.int .i64,.sl tC]),(1,.box [.sl tR,.sl tEn,.int .i64,.bool])],2⟩
def JL:StS:=⟨[(1,.ptr 0 0),(2,.undef),(3,.ptr 1 0),(4,.int .i64)],[(0,.box [.sl (.int .i64),.sl (.int .i64),.int .i64,.sl tC]),(1,.box [.sl tR,.sl tEn,.int .i64,.bool])],2⟩
def JM:StS:=⟨[(1,.ptr 0 0),(2,.bool),(3,.ptr 1 0),(4,.int .i64)],[(0,.box [.sl (.int .i64),.sl (.int .i64),.int .i64,.sl tC]),(1,.box [.sl tR,.sl tEn,.int .i64,.bool])],2⟩
abbrev Kl:=(Int×Int×(List Int)×(List Int)×Int×(List C)×(List Re)×(List En)×Int×Bool)
def Zts:StD Vq→Kl:=fun ((_,_,a,b,_),((c,d,e,f,_),(g,h,i,j,_),_))=>(a,b,c,d,e,f,g,h,i,j)
def Zus:Kl→StD Vq:=fun (a,b,c,d,e,f,g,h,i,j)=>(((),(),a,b,()),((c,d,e,f,()),(g,h,i,j,()),()))
abbrev YM:=Zao
def ZNu:StD JL→YM:=fun ((_,_,_,a,_),((b,c,d,e,_),(f,g,h,i,_),_))=>(a,b,c,d,e,f,g,h,i)
def Za8:YM→StD JL:=fun (a,b,c,d,e,f,g,h,i)=>(((),(),(),a,()),((b,c,d,e,()),(f,g,h,i,()),()))
abbrev YN:=(Bool×Int×(List Int)×(List Int)×Int×(List C)×(List Re)×(List En)×Int×Bool)
def ZNv:StD JM→YN:=fun ((_,a,_,b,_),((c,d,e,f,_),(g,h,i,j,_),_))=>(a,b,c,d,e,f,g,h,i,j)
def Za9:YN→StD JM:=fun (a,b,c,d,e,f,g,h,i,j)=>(((),a,(),b,()),((c,d,e,f,()),(g,h,i,j,()),()))
def ZcX (s4 s5:Int) (b0 b0_1:List Int) (b0_2:Int) (b0_3:List C) (b1:List Re) (b1_1:List En) (b1_2:Int) (b1_3:Bool):Option ((Int×Int×(List Int)×(List Int)×Int×(List C)×(List Re)×(List En)×Int×Bool)⊕(Zao⊕(Bool×Int×(List Int)×(List Int)×Int×(List C)×(List Re)×(List En)×Int×Bool))):=bif decide (0≤s4) then Za b1[s4.toNat]? none fun d13=>bif decide (s5<(List.length d13.1:Int)) then bif decide (0≤s4) then Za b1[s4.toNat]? none fun d14=>bif decide (0≤s5) then Za d14.1[s5.toNat]? none fun d15=>bif d15.1 then bif decide (0≤s4) then Za b1[s4.toNat]? none fun d16=>bif decide (0≤s5) then Za d16.1[s5.toNat]? none fun d17=>Za (Yb ((b0,b0_1,b0_2,b0_3),s4,d17,())) none fun d18=>bif !d18 then some (.inr (.inr (false,s4,b0,b0_1,b0_2,b0_3,b1,b1_1,b1_2,b1_3))) else some (.inl (s4,i64.wrap (s5+1),b0,b0_1,b0_2,b0_3,b1,b1_1,b1_2,b1_3)) else none else none else some (.inl (s4,i64.wrap (s5+1),b0,b0_1,b0_2,b0_3,b1,b1_1,b1_2,b1_3)) else none else none else some (.inr (.inl (s4,b0,b0_1,b0_2,b0_3,b1,b1_1,b1_2,b1_3))) else none
def JS:Kl→Option (Kl⊕(YM⊕YN)):=fun (a,b,c,d,e,f,g,h,i,j)=>ZcX a b c d e f g h i j
def Vi (x:Kl):Option (YM⊕YN):=Zh JS Zl x
def Znk:Nat→Tm→Prog (Nat×Tm):=(varP 0 (fun T h=>(rdS Vq T h).map Zts) Vi (fun y=>.alt y (altE 4 JL Za8) (altE 1 JM Za9)) (fun _ _=>.fail))
def ZeG:Lpc:=⟨14,2,114,(fun base T=>.norm base (Zmx 0) T (Znk base)),by kernel_rfl,by kernel_rfl,(loopU ZeY [] 40 1048576 8 (keep:=Zmx) (q:=Znk) (by kernel_rfl) (Zv (s:=Vq) (un:=Zus) (by rfl) (fun _=>rfl) (ZW (Zn (s:=JL) (un:=Za8) (flat:=ZNu) (by rfl) (fun _=>rfl)) (Zn (s:=JM) (un:=Za9) (flat:=ZNv) (by rfl) (fun _=>rfl))) (step:=JS) (fun _=>by kernel_rfl) (fun _ _ e=>⟨_,e⟩) (ZV (Zm 4 JL Za8) (Zm 1 JM Za9)) (ZB.fail _ _)))⟩
abbrev ZRg:=cxU ZeY [ZeG] 40 1048576
def Vp:StS:=⟨[(1,.ptr 0 0),(3,.ptr 1 0),(4,.int .i64)],[(0,.box [.sl (.int .i64),.sl (.int .i64),.int .i64,.sl tC]),(1,.box [.sl tR,.sl tEn,.int .i64,.bool])],2⟩
def JJ:StS:=⟨[(2,.undef)],[],0⟩
def JK:StS:=⟨[(2,.bool)],[],0⟩
abbrev Kk:=Zao
def Ztr:StD Vp→Kk:=fun ((_,_,a,_),((b,c,d,e,_),(f,g,h,i,_),_))=>(a,b,c,d,e,f,g,h,i)
def Zur:Kk→StD Vp:=fun (a,b,c,d,e,f,g,h,i)=>(((),(),a,()),((b,c,d,e,()),(f,g,h,i,()),()))
abbrev YK:=Unit
def ZNs (d:StD JJ):YK:=()
def Za6 (x:YK):StD JJ:=(((),()),())
abbrev YL:=Bool
def ZNt (d:StD JK):YL:=(d.1.1)
def Za7 (x:YL):StD JK:=((x,()),())
def Hn (s4:Int) (b0 b0_1:List Int) (b0_2:Int) (b0_3:List C) (b1:List Re) (b1_1:List En) (b1_2:Int) (b1_3:Bool):Option (Zao⊕(Unit⊕Bool)):=bif decide (s4<(b1.length:Int)) then bif b1_3 then Za (Vi (s4,0,b0,b0_1,b0_2,b0_3,b1,b1_1,b1_2,b1_3)) none fun d12=>Sum.elim (fun e13=>bif decide (0≤e13.1) then Za e13.2.2.2.2.2.1[e13.1.toNat]? none fun d14=>bif !d14.2.2.2.2.2 then some (.inr (.inr false)) else bif decide (0≤e13.1) then Za e13.2.2.2.2.2.1[e13.1.toNat]? none fun d15=>Za (Zs1 (d15.2.1,e13.2.2.2.2.2.2.1,())) none fun d16=>bif !d16 then some (.inr (.inr false)) else bif decide (0≤e13.1) then Za e13.2.2.2.2.2.1[e13.1.toNat]? none fun d17=>Za (KA ((e13.2.1,e13.2.2.1,e13.2.2.2.1,e13.2.2.2.2.1),e13.1,d17.1,e13.2.2.2.2.2.2.1,())) none fun d18=>bif !d18 then some (.inr (.inr false)) else some (.inl (i64.wrap (e13.1+1),e13.2.1,e13.2.2.1,e13.2.2.2.1,e13.2.2.2.2.1,e13.2.2.2.2.2.1,e13.2.2.2.2.2.2.1,e13.2.2.2.2.2.2.2.1,e13.2.2.2.2.2.2.2.2)) else none else none else none) (fun e13=>some (.inr (.inr e13.1))) d12 else some (.inr (.inl PUnit.unit)) else some (.inr (.inl PUnit.unit))
def QF:Kk→Option (Kk⊕(YK⊕YL)):=fun (a,b,c,d,e,f,g,h,i)=>Hn a b c d e f g h i
def Ki (x:Kk):Option (YK⊕YL):=Zh QF Zl x
def Znj:Nat→Tm→Prog (Nat×Tm):=(varP 0 (fun T h=>(rdS Vp T h).map Ztr) Ki (fun y=>.alt y (altE 2 JJ Za6) (altE 1 JK Za7)) (fun _ _=>.fail))
def Zv4:Lpc:=⟨14,0,114,(fun base T=>.norm base (Zmw 0) T (Znj base)),by kernel_rfl,by kernel_rfl,(loopU ZeY [ZeG] 40 1048576 8 (keep:=Zmw) (q:=Znj) (by kernel_rfl) (Zv (s:=Vp) (un:=Zur) (by rfl) (fun _=>rfl) (ZW (Zn (s:=JJ) (un:=Za6) (flat:=ZNs) (by rfl) (fun _=>rfl)) (Zn (s:=JK) (un:=Za7) (flat:=ZNt) (by rfl) (fun _=>rfl))) (step:=QF) (fun _=>by kernel_rfl) (fun _ _ e=>⟨_,e⟩) (ZV (Zm 2 JJ Za6) (Zm 1 JK Za7)) (ZB.fail _ _)))⟩
def ZlR (a0:U):Option Bool:=Za (Zlx (a0,45,())) none fun d4=>bif d4 then some true else Za (QS (a0,())) none fun d5=>bif (List.length d5.1:Int) !=(List.length a0.2.2.2:Int) then some false else bif decide (d5.2.2.1<1) then some false else bif decide (d5.2.2.1>20) then some false else Za (Znx (d5.2.1,())) none fun d6=>bif !d6 then some false else Za (Ki (0,a0.1,a0.2.1,a0.2.2.1,a0.2.2.2,d5)) none fun d7=>Sum.elim (fun e8=>Za (ZQ ()) none fun d9=>some d9) (fun e8=>some e8) d7
def Zru (x:U×Unit):Option Bool:=ZlR x.1
def ZAp:=conP true ZAk (.dat .bool) Zru
theorem ZXK:Zf prog 14 ZAp:=Ze (calU ZeY [ZeG,Zv4] 40 1048576 8 14) true (by rfl) (by rfl) (fun x r e=>(Zk _ _ _ _ _ _ _).trans ((show _=Zru x by kernel_rfl).trans e)) (.inl rfl)
theorem ZKA {u:U}:∀ (n:Nat) (R:List Re) (tab:List En) (r:Int) (d:Bool),r≤(outL u n R tab r d).2.2.1∧(outL u n R tab r d).2.2.1≤r+n∧(d=false→1≤n→r+1≤(outL u n R tab r d).2.2.1)
 | 0,R,tab,r,d=>⟨Int.le_refl _,by simp [outL],fun _ h=>by omega⟩
 | n+1,R,tab,r,true=>⟨Int.le_refl _,by simp only [outL,cond_true];omega,fun h=>nomatch h⟩
 | n+1,R,tab,r,false=>by
  have h:=ZKA (u:=u) n (thrR u tab 0 u.2.2.2) (nxtT u tab (r+1)) (r+1) (decide (nxtT u tab (r+1)=tab))
  have h1:=h.1
  have h2:=h.2.1
  refine ⟨?_,?_,fun _ _=>?_⟩
  ·show r≤(outL u n _ _ _ _).2.2.1;omega
  ·show (outL u n _ _ _ _).2.2.1≤_;omega
  ·show r+1≤(outL u n _ _ _ _).2.2.1;omega
theorem Z0E {u:U} {tab:List En} (hu:unitOK u) (hl:tabOK tab) (hn:tab.length≤1000):∀ (r:List C) (i:Nat) (s:List En),u.2.2.2.drop i=r→tabOK s→leG s (stoR s (thrR u tab i r))∧∀ x∈thrR u tab i r,leG x.2.1 (stoR s (thrR u tab i r))
 | [],i,s,hd,hs=>⟨Z1A s,fun x h=>by simp [thrR] at h⟩
 | c::r,i,s,hd,hs=>by
  have hc:u.2.2.2[i]? = some c:=by
   have:=congrArg (fun q=>q[0]?) hd
   simpa using this
  obtain ⟨h1,_,_,_⟩:=Zwt hu hl hn hc
  obtain ⟨i1,i2⟩:=Z0E hu hl hn r (i+1) (addT Zg s (resV u (i:Int) tab (Zt u) c).2.1) (by rw [← List.drop_drop,hd];rfl) (Zfk Zcb hs h1.a)
  rw [ZxX]
  refine ⟨Zy1 (Z4V Zns hs h1) i1,fun x hx=>?_⟩
  rcases List.mem_cons.1 hx with rfl | hx
  ·exact Zy1 (Z2f Zns hs h1) i1
  ·exact i2 x hx
theorem Z0G {u:U} (hu:unitOK u) {R:List Re} {tab:List En} {rr:Int} {dn:Bool} {i:Nat} {x:Re} (hi:i<u.2.2.2.length) (hx:R[i]? = some x) (hl:x.1.length≤60) (hf:∀ e∈x.1,e.1=true→envOK u (i:Int) e) :
  Vi ((i:Int),0,u.1,u.2.1,u.2.2.1,u.2.2.2,R,tab,rr,dn)=some (.inl ((i:Int),u.1,u.2.1,u.2.2.1,u.2.2.2,R,tab,rr,dn)):=by
 have e0:decide (0≤(i:Int))=true:=dT0 (by omega)
 have go:∀ (r:List E) (j:Nat) (k:Nat),x.1.drop j=r→j+r.length=x.1.length→
   Zh JS (k+r.length+1) ((i:Int),(j:Int),u.1,u.2.1,u.2.2.1,u.2.2.2,R,tab,rr,dn)=some (.inl ((i:Int),u.1,u.2.1,u.2.2.1,u.2.2.2,R,tab,rr,dn)):=by
  intro r
  induction r with
  | nil=>
   intro j k hd hj
   have e:decide ((j:Int)<(x.1.length:Int))=false:=dF0 (by simp at hj;omega)
   simp only [Zh,JS,ZcX,e0,cond_true,tN0,hx,Zb,e,cond_false]
  | cons d r ih=>
   intro j k hd hj
   rw [List.length_cons] at hj ⊢
   have hc:x.1[j]? = some d:=by
    have:=congrArg (fun q=>q[0]?) hd
    simpa using this
   have e:decide ((j:Int)<(x.1.length:Int))=true:=dT0 (by omega)
   have e1:decide (0≤(j:Int))=true:=dT0 (by omega)
   have w:=Zq (i:=j) (n:=x.1.length) (by omega) (by omega)
   have ih':=ih (j+1) k (by rw [← List.drop_drop,hd];rfl) (by omega)
   rw [show k+(r.length+1)+1=(k+r.length+1)+1 by omega,Zh]
   simp only [JS,ZcX,e0,cond_true,tN0,hx,Zb,e,e1,hc,w]
   cases d1:d.1
   ·exact ih'
   ·have f1:WX (u.1,u.2.1,u.2.2.1,u.2.2.2) (i:Int) d=some true:=ZZL u (i:Int) d hu (by omega) (by omega) (hf d (mG0 hc) d1)
    simp only [cond_true,Yb,f1,Zb,Bool.not_true,cond_false]
    exact ih'
 unfold Vi
 have:=go x.1 0 (Zl - x.1.length - 1) rfl (by simp)
 rw [show Zl - x.1.length - 1+x.1.length+1=Zl by unfold Zl;omega] at this
 exact this
theorem Z0F {u:U} (hu:unitOK u) {R:List Re} {tab:List En} {rr:Int} {dn:Bool} (hR:R.length=u.2.2.2.length) (h:dn=true→∀ (i:Nat) (x:Re),R[i]? = some x→x.1.length≤60∧(∀ e∈x.1,e.1=true→envOK u (i:Int) e)∧x.2.2.2.2.2=true∧Ztc x.2.1 tab=some true∧Zfi u (i:Int) x.1 tab=some true) :
  Ki (0,u.1,u.2.1,u.2.2.1,u.2.2.2,R,tab,rr,dn)=some (.inl ()):=by
 have ut:=hu.t
 have go:∀ (r:List Re) (j:Nat) (k:Nat),R.drop j=r→j+r.length=R.length→
   Zh QF (k+r.length+1) ((j:Int),u.1,u.2.1,u.2.2.1,u.2.2.2,R,tab,rr,dn)=some (.inl ()):=by
  intro r
  induction r with
  | nil=>
   intro j k hd hj
   have e:decide ((j:Int)<(R.length:Int))=false:=dF0 (by simp at hj;omega)
   simp only [Zh,QF,Hn,e,cond_false]
  | cons d r ih=>
   intro j k hd hj
   rw [List.length_cons] at hj ⊢
   have hc:R[j]? = some d:=by
    have:=congrArg (fun q=>q[0]?) hd
    simpa using this
   have e:decide ((j:Int)<(R.length:Int))=true:=dT0 (by omega)
   rw [show k+(r.length+1)+1=(k+r.length+1)+1 by omega,Zh]
   cases dn
   ·simp only [QF,Hn,e,cond_true,cond_false]
   ·obtain ⟨h1,h2,h3,h4,h5⟩:=h rfl j d hc
    have e1:decide (0≤(j:Int))=true:=dT0 (by omega)
    have w:=Zq (i:=j) (n:=R.length) (by omega) (by omega)
    have ii:=Z0G (tab:=tab) (rr:=rr) (dn:=true) hu (by omega) hc h1 h2
    have h5:Zfi (u.1,u.2.1,u.2.2.1,u.2.2.2) (j:Int) d.1 tab=some true:=h5
    have ih':=ih (j+1) k (by rw [← List.drop_drop,hd];rfl) (by omega)
    simp only [QF,Hn,e,cond_true,ii,Zb,Sum.elim_inl,e1,tN0,hc,h3,Bool.not_true,cond_false,Zs1,h4,KA,h5,w]
    exact ih'
 unfold Ki
 have:=go R 0 (Zl - R.length - 1) rfl (by simp)
 rw [show Zl - R.length - 1+R.length+1=Zl by unfold Zl;omega] at this
 exact this
theorem Z5G (u:U) (hs:sizeU u):ZlR u=some true:=by
 unfold ZlR
 obtain ⟨b,h1,h2⟩:=ZzU u hs
 simp only [Zlx,h1,Zb]
 cases b
 case true=>rfl
 obtain ⟨hu,h45⟩:=h2 rfl
 obtain ⟨o1,o2,tv⟩:=Zxi hu h45
 obtain ⟨tab0',v0,e1,r0,e2,e3⟩:=ZIh hu h45 20 [] [] 0 false (by decide) (by decide) ⟨Za5,by simp⟩ (.inr ⟨rfl,by decide⟩)
 have e1:(outZ u).1=thrR u tab0' 0 u.2.2.2:=e1
 have e2:(outZ u).2.1=nxtT u tab0' r0:=e2
 have e3:(outZ u).2.2.2=true→(outZ u).2.1=tab0':=e3
 have ut:=hu.t
 have tl:=ZBU u tab0' 0 u.2.2.2
 have tn:=tv.n
 have vn:=v0.n
 obtain ⟨rr1,rr2,rr3⟩:=ZKA (u:=u) 20 [] [] 0 false
 have rr2:(outZ u).2.2.1≤20:=by show (outL u 20 [] [] 0 false).2.2.1≤20;omega
 have rr3:1≤(outZ u).2.2.1:=by have:=rr3 rfl (by decide);show 1≤(outL u 20 [] [] 0 false).2.2.1;omega
 have is:=ZMH (outZ u).2.1 (by omega)
 rw [ZSP tv.k.e tv.k.srt] at is
 have ln:(((outZ u).1.length:Int) !=(u.2.2.2.length:Int))=false:=by rw [e1,tl];simp
 have d1:decide ((outZ u).2.2.1<1)=false:=dF0 (by omega)
 have d2:decide ((outZ u).2.2.1>20)=false:=dF0 (by omega)
 have main:=Z0F (R:=(outZ u).1) (tab:=(outZ u).2.1) (rr:=(outZ u).2.2.1) (dn:=(outZ u).2.2.2&&allD (outZ u).1) hu (by rw [e1,tl]) (fun k i x hx=>by
  rw [Bool.and_eq_true] at k
  have te:=e3 k.1
  have hall:=k.2
  unfold allD at hall
  have dx:=List.all_eq_true.1 hall x (mG0 hx)
  rw [e1] at hx
  obtain ⟨c,hc,rfl⟩:=Z0J hx
  have cl:=(hu.ts c (mG0 hc)).n
  have hc':u.2.2.2[((i:Int)).toNat]? = some c:=by rw [tN0];exact hc
  obtain ⟨q1,q2,q3,q4,q5,q6⟩:=ZN5 (t:=(i:Int)) hu (by omega) v0.k (by omega) hc' (Zt u)
  have k1:=ZDo (t:=(i:Int)) hu (by omega) v0.k (by omega) hc' (fun x hx=>(q1.ok x hx).env)
  have dx:(endV u (i:Int) tab0' (Zt u) c).2.2.2=true:=dx
  obtain ⟨s1,s2⟩:=Z0E hu v0.k (by omega) u.2.2.2 0 [] rfl Za5
  obtain ⟨so,_⟩:=ZT7 hu v0.k (by omega) u.2.2.2 0 [] rfl Za5
  have sx:=s2 _ (mG0 hx)
  have j1:=Zfk Zcb v0.k so.a
  have l1:=Zy1 sx (Z2f Zns v0.k so)
  have l2:leG (resV u (i:Int) tab0' (Zt u) c).2.1 (outZ u).2.1:=by
   rw [e2]
   unfold nxtT
   split
   ·exact Zy1 l1 (Z2f (ZCf (Zt u)) v0.k j1)
   ·exact l1
  obtain ⟨rs,rl,_,_⟩:=Zwt hu v0.k (by omega) hc
  refine ⟨by have:=q1.le;show (endV u (i:Int) tab0' (Zt u) c).1.length≤60;omega,fun e he=>(q1.ok e he).env,dx,?_,?_⟩
  ·rw [ZVz _ _ (by omega) (by omega),Z2V rs.srt tv.k.srt l2]
  ·rw [te]
   have:=k1.2
   rw [q6 dx] at this
   exact this)
 simp only [cond_false,QS,o1,Zb]
 unfold outVV
 have main:Ki (0,u.1,u.2.1,u.2.2.1,u.2.2.2,(outZ u).1,(outZ u).2.1,(outZ u).2.2.1,(outZ u).2.2.2&&allD (outZ u).1)=_:=main
 simp only [ln,d1,d2,cond_false,Znx,is,Zb,Bool.not_true,main,Sum.elim_inl,ZQ,ZsE]
end
end Go.Proofs.YtbdcblpjemmipaaGreat.Ex
