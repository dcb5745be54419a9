/- A part of the proofs of what is known of threads: HFixClosed0. -/
import Derived.Test.YtbdcblpjemmipaaGreatHA
import Derived.Test.YtbdcblpjemmipaaGreatHC
import Derived.Test.YtbdcblpjemmipaaGreatHF
import Derived.Test.YtbdcblpjemmipaaGreatHG
import Derived.Test.YtbdcblpjemmipaaGreatHH
import Derived.Test.YtbdcblpjemmipaaGreatHI
namespace Go.Proofs.YtbdcblpjemmipaaGreat.Ex
open Go.Proofs
set_option maxRecDepth 100000
set_option maxHeartbeats 4000000
set_option linter.unusedVariables false
set_option linter.unusedSimpArgs false
set_option linter.unusedSectionVars false
noncomputable section
section
theorem ZHI (x y:I):leqB x (Zg x y)=true:=by
 simp only [leqB,Zg,Zd,nn,mn,mx,Bool.or_eq_true,Bool.and_eq_true,decide_eq_true_eq]
 (repeat' split)<;>simp_all<;>(try (repeat' split))<;>omega
section
variable {a b c d:Int} (hx:a≤b) (hy:c≤d)
include hx hy
omit hx hy in
end
theorem KH {x y z:I} (h:leqB x y=true) (k:leqB y z=true):leqB x z=true:=by
 rw [QE] at *;unfold sub at *;omega
theorem ZXa (x y:I):leqB y (Zg x y)=true:=by rw [Zfb];exact ZHI y x
end
def ZQz:List Sh:=[.dat (.int .i64)]
def ZTZ:List Con:=[]
def Zg4:=conP true ZQz (.dat .bool) Zo
theorem Zlr:Zf Tryz.prog 31 Zg4:=Ze (calU ZTZ [] 40 1048576 8 31) true (by rfl) (by rfl) (fun x r e=>(Zk _ _ _ _ _ _ _).trans ((show _=Zo x by kernel_rfl).trans e)) (.inl rfl)
def ZEH:List Sh:=[]
def ZIK:List Con:=[]
def ZKn:Option I:=some (1,0)
theorem ZQM:evGX (cxU ZIK [] 40 1048576) keeps 8 95 ZEH (.dat tI) (():Unit)=ZKn:=by kernel_rfl
def ZUy (x:Unit):Option I:=ZKn
def Vk:=conP true ZEH (.dat tI) ZUy
theorem Za3:Zf Tryz.prog 95 Vk:=Ze (calU ZIK [] 40 1048576 8 95) true (by rfl) (by rfl) (fun x r e=>(Zk _ _ _ _ _ _ _).trans ((ZQM ).trans e)) (.inl rfl)
def ZNX:List Sh:=[.dat (.int .i64),.dat (.int .i64)]
def ZRe:List Con:=[]
def ZG3 (x:Int×(Int×Unit)):Option Bool:=Zqz x.1 x.2.1
def ZAw:=conP true ZNX (.dat .bool) ZG3
theorem ZOO:Zf Tryz.prog 166 ZAw:=Ze (calU ZRe [] 40 1048576 8 166) true (by rfl) (by rfl) (fun x r e=>(Zk _ _ _ _ _ _ _).trans ((show _=ZG3 x by kernel_rfl).trans e)) (.inl rfl)
def ZNO:List Sh:=[.dat (.sl tEn),.dat (.int .i64),.dat .bool,.dat (.int .i64),.dat (.int .i64)]
def ZrJ:Nat→List Nat:=fun c=>bif c.beq 0 then [0,1,2,3,4,10,11,12] else [10,11]
def ZFh:List Con:=[⟨95,Vk,Za3⟩,⟨166,ZAw,ZOO⟩,⟨19,Kn,YD⟩]
def ZeS:StS:=⟨[(0,.sl tEn),(1,.int .i64),(2,.bool),(3,.int .i64),(4,.int .i64),(10,.ptr 0 0),(11,.ptr 1 0),(12,.int .i64)],[(0,.box [.int .i64,.int .i64]),(1,.box [.int .i64,.int .i64])],2⟩
def Vb:StS:=⟨[(10,.ptr 0 0),(11,.ptr 1 0)],[(0,.box [.int .i64,.int .i64]),(1,.box [.int .i64,.int .i64])],2⟩
def ZAI:StD ZeS→YR:=fun ((a,b,c,d,e,_,_,f,_),((g,h,_),(i,j,_),_))=>(a,b,c,d,e,f,g,h,i,j)
def ZB9:YR→StD ZeS:=fun (a,b,c,d,e,f,g,h,i,j)=>((a,b,c,d,e,(),(),f,()),((g,h,()),(i,j,()),()))
def ZUr:StD Vb→Q1:=fun ((_,_,_),((a,b,_),(c,d,_),_))=>(a,b,c,d)
def ZgS:Q1→StD Vb:=fun (a,b,c,d)=>(((),(),()),((a,b,()),(c,d,()),()))
def Zt8:Nat→Tm→Prog (Nat×Tm):=(varP 0 (fun T h=>(rdS ZeS T h).map ZAI) WL (altE 2 Vb ZgS) (fun _ _=>.fail))
def ZF1:Lpc:=⟨117,0,52,(fun base T=>.norm base (ZrJ 0) T (Zt8 base)),by kernel_rfl,by kernel_rfl,(loopU ZFh [] 40 1048576 8 (keep:=ZrJ) (q:=Zt8) (by kernel_rfl) (Zv (s:=ZeS) (un:=ZB9) (by rfl) (fun _=>rfl) (Zn (s:=Vb) (un:=ZgS) (flat:=ZUr) (by rfl) (fun _=>rfl)) (step:=ZpP) (fun _=>by kernel_rfl) (fun _ _ e=>⟨_,e⟩) (Zm 2 Vb ZgS) (ZB.fail _ _)))⟩
def Zsn:=conP true ZNO (.dat tI) Zji
theorem ZBI:Zf Tryz.prog 117 Zsn:=Ze (calU ZFh [ZF1] 40 1048576 8 117) true (by rfl) (by rfl) (fun x r e=>(Zk _ _ _ _ _ _ _).trans ((show _=Zji x by kernel_rfl).trans e)) (.inl rfl)
def ZRZ:List Sh:=[.dat (.int .i64),.dat (.int .i64)]
def ZV2:List Con:=[]
def Zqg:=conP true ZRZ (.dat .bool) YE
theorem ZxR:Zf Tryz.prog 119 Zqg:=Ze (calU ZV2 [] 40 1048576 8 119) true (by rfl) (by rfl) (fun x r e=>(Zk _ _ _ _ _ _ _).trans ((show _=YE x by kernel_rfl).trans e)) (.inl rfl)
def ZK3:List Sh:=[.dat (.sl tEn),.dat (.int .i64),.dat .bool,.dat (.int .i64),.dat (.int .i64),.dat (.int .i64)]
def Zjy:Nat→List Nat:=fun c=>bif c.beq 0 then [0,1,2,3,4,5,12,13,14] else [1,2,3,4,12,13]
def Zze:List Con:=[⟨119,Zqg,ZxR⟩,⟨117,Zsn,ZBI⟩]
def Zct:StS:=⟨[(0,.sl tEn),(1,.int .i64),(2,.bool),(3,.int .i64),(4,.int .i64),(5,.int .i64),(12,.ptr 0 0),(13,.row 1),(14,.int .i64)],[(0,.box [.int .i64,.int .i64]),(1,.row tEn)],2⟩
def Yw:StS:=⟨[(1,.int .i64),(2,.bool),(3,.int .i64),(4,.int .i64),(12,.ptr 0 0),(13,.row 1)],[(0,.box [.int .i64,.int .i64]),(1,.row tEn)],2⟩
def Zyi:StD Zct→KD:=fun ((a,b,c,d,e,f,_,_,g,_),((h,i,_),j,_))=>(a,b,c,d,e,f,g,h,i,j)
def Zyx:KD→StD Zct:=fun (a,b,c,d,e,f,g,h,i,j)=>((a,b,c,d,e,f,(),(),g,()),((h,i,()),j,()))
def ZRk:StD Yw→Qw:=fun ((a,b,c,d,_,_,_),((e,f,_),g,_))=>(a,b,c,d,e,f,g)
def Ze3:Qw→StD Yw:=fun (a,b,c,d,e,f,g)=>((a,b,c,d,(),(),()),((e,f,()),g,()))
def ZqQ:Nat→Tm→Prog (Nat×Tm):=(varP 0 (fun T h=>(rdS Zct T h).map Zyi) HP (altE 2 Yw Ze3) (fun _ _=>.fail))
def ZAX:Lpc:=⟨120,0,41,(ownP [] [(13,tEn)] (Zjy 0) (fun base T=>.norm base (Zjy 0) T (ZqQ base))),by kernel_rfl,by kernel_rfl,(Ja (loopU Zze [] 40 1048576 8 (keep:=Zjy) (q:=ZqQ) (by kernel_rfl) (Zv (s:=Zct) (un:=Zyx) (by rfl) (fun _=>rfl) (Zn (s:=Yw) (un:=Ze3) (flat:=ZRk) (by rfl) (fun _=>rfl)) (step:=Zn0) (fun _=>by kernel_rfl) (fun _ _ e=>⟨_,e⟩) (Zm 2 Yw Ze3) (ZB.fail _ _))))⟩
def ZwK:=conP true ZK3 (.dat tI) Kz
theorem ZLO:Zf Tryz.prog 120 ZwK:=Ze (calU Zze [ZAX] 40 1048576 8 120) true (by rfl) (by rfl) (fun x r e=>(Zk _ _ _ _ _ _ _).trans ((show _=Kz x by kernel_rfl).trans e)) (.inl rfl)
def ZUK:List Sh:=[.dat (.int .i64),.dat (.int .i64)]
def ZYV:List Con:=[]
def Zs7:=conP true ZUK (.dat .bool) Zi
theorem Zz7:Zf Tryz.prog 100 Zs7:=Ze (calU ZYV [] 40 1048576 8 100) true (by rfl) (by rfl) (fun x r e=>(Zk _ _ _ _ _ _ _).trans ((show _=Zi x by kernel_rfl).trans e)) (.inl rfl)
def ZQF:List Sh:=[.dat (.int .i64),.dat (.int .i64)]
def ZtV:Nat→List Nat:=fun c=>bif c.beq 0 then [5,6,7] else [4]
def ZIM:List Con:=[]
def Zgv:StS:=⟨[(5,.str),(6,.int .u8),(7,.int .i64)],[],0⟩
def Wz:StS:=⟨[(4,.undef)],[],0⟩
def WA:StS:=⟨[(4,.bool)],[],0⟩
def ZCS:StD Zgv→Zbz:=fun ((a,b,c,_),_)=>(a,b,c)
def ZEC:Zbz→StD Zgv:=fun (a,b,c)=>((a,b,c,()),())
def ZVn (d:StD Wz):ZdA:=()
def ZiY (x:ZdA):StD Wz:=(((),()),())
def ZVo (d:StD WA):ZdB:=(d.1.1)
def ZiZ (x:ZdB):StD WA:=((x,()),())
def ZvF:Nat→Tm→Prog (Nat×Tm):=(varP 0 (fun T h=>(rdS Zgv T h).map ZCS) Zrx (fun y=>.alt y (altE 2 Wz ZiY) (altE 1 WA ZiZ)) (fun _ _=>.fail))
def ZH0:Lpc:=⟨180,0,25,(fun base T=>.norm base (ZtV 0) T (ZvF base)),by kernel_rfl,by kernel_rfl,(loopU ZIM [] 40 1048576 8 (keep:=ZtV) (q:=ZvF) (by kernel_rfl) (Zv (s:=Zgv) (un:=ZEC) (by rfl) (fun _=>rfl) (ZW (Zn (s:=Wz) (un:=ZiY) (flat:=ZVn) (by rfl) (fun _=>rfl)) (Zn (s:=WA) (un:=ZiZ) (flat:=ZVo) (by rfl) (fun _=>rfl))) (step:=Zro) (fun _=>by kernel_rfl) (fun _ _ e=>⟨_,e⟩) (ZV (Zm 2 Wz ZiY) (Zm 1 WA ZiZ)) (ZB.fail _ _)))⟩
def ZET:=conP true ZQF (.dat .bool) Zs3
theorem ZQ1:Zf Tryz.prog 180 ZET:=Ze (calU ZIM [ZH0] 40 1048576 8 180) true (by rfl) (by rfl) (fun x r e=>(Zk _ _ _ _ _ _ _).trans ((show _=Zs3 x by kernel_rfl).trans e)) (.inl rfl)
def ZR1:List Sh:=[.dat (.int .i64),.dat (.int .i64),.dat (.int .i64),.dat (.int .i64)]
def ZV4:List Con:=[⟨180,ZET,ZQ1⟩,⟨100,Zs7,Zz7⟩]
def ZHg:=conP true ZR1 (.dat .bool) Zc
theorem ZTJ:Zf Tryz.prog 141 ZHg:=Ze (calU ZV4 [] 40 1048576 8 141) true (by rfl) (by rfl) (fun x r e=>(Zk _ _ _ _ _ _ _).trans ((show _=Zc x by kernel_rfl).trans e)) (.inl rfl)
def ZR0:List Sh:=[.dat tU,.dat tC,.dat tA]
def ZV3:List Con:=[⟨31,Zg4,Zlr⟩,⟨100,Zs7,Zz7⟩,⟨141,ZHg,ZTJ⟩]
def ZHf:=conP true ZR0 (.dat .bool) Zp4
theorem ZTI:Zf Tryz.prog 101 ZHf:=Ze (calU ZV3 [] 40 1048576 8 101) true (by rfl) (by rfl) (fun x r e=>(Zk _ _ _ _ _ _ _).trans ((show _=Zp4 x by kernel_rfl).trans e)) (.inl rfl)
def ZUJ:List Sh:=[.dat tU]
def ZyW:Nat→List Nat:=fun c=>bif c.beq 0 then [1,3] else [1,2]
def ZyX:Nat→List Nat:=fun c=>bif c.beq 0 then [1,4] else [1,2]
def ZyZ:Nat→List Nat:=fun c=>bif c.beq 0 then [1,5,6,7,8] else [1,2,5]
def ZyY:Nat→List Nat:=fun c=>bif c.beq 0 then [1,5] else [2]
def Zib:List Con:=[⟨100,Zs7,Zz7⟩,⟨31,Zg4,Zlr⟩,⟨101,ZHf,ZTI⟩]
def Zk0:StS:=⟨[(1,.ptr 0 0),(3,.int .i64)],[(0,.box [.sl (.int .i64),.sl (.int .i64),.int .i64,.sl tC])],1⟩
def Zdc:StS:=⟨[(1,.ptr 0 0),(2,.undef)],[(0,.box [.sl (.int .i64),.sl (.int .i64),.int .i64,.sl tC])],1⟩
def Zdd:StS:=⟨[(1,.ptr 0 0),(2,.bool)],[(0,.box [.sl (.int .i64),.sl (.int .i64),.int .i64,.sl tC])],1⟩
def ZJs:StD Zk0→Zb5:=fun ((_,a,_),((b,c,d,e,_),_))=>(a,b,c,d,e)
def ZJ5:Zb5→StD Zk0:=fun (a,b,c,d,e)=>(((),a,()),((b,c,d,e,()),()))
def ZY5:StD Zdc→Yh:=fun ((_,_,_),((a,b,c,d,_),_))=>(a,b,c,d)
def Zmk:Yh→StD Zdc:=fun (a,b,c,d)=>(((),(),()),((a,b,c,d,()),()))
def ZY6:StD Zdd→Yi:=fun ((_,a,_),((b,c,d,e,_),_))=>(a,b,c,d,e)
def Zml:Yi→StD Zdd:=fun (a,b,c,d,e)=>(((),a,()),((b,c,d,e,()),()))
def ZA8:Nat→Tm→Prog (Nat×Tm):=(varP 0 (fun T h=>(rdS Zk0 T h).map ZJs) Zfs (fun y=>.alt y (altE 2 Zdc Zmk) (altE 1 Zdd Zml)) (fun _ _=>.fail))
def WZ:Lpc:=⟨64,0,123,(fun base T=>.norm base (ZyW 0) T (ZA8 base)),by kernel_rfl,by kernel_rfl,(loopU Zib [] 40 1048576 8 (keep:=ZyW) (q:=ZA8) (by kernel_rfl) (Zv (s:=Zk0) (un:=ZJ5) (by rfl) (fun _=>rfl) (ZW (Zn (s:=Zdc) (un:=Zmk) (flat:=ZY5) (by rfl) (fun _=>rfl)) (Zn (s:=Zdd) (un:=Zml) (flat:=ZY6) (by rfl) (fun _=>rfl))) (step:=ZvJ) (fun _=>by kernel_rfl) (fun _ _ e=>⟨_,e⟩) (ZV (Zm 2 Zdc Zmk) (Zm 1 Zdd Zml)) (ZB.fail _ _)))⟩
abbrev Z2t:=cxU Zib [WZ] 40 1048576
def Zk1:StS:=⟨[(1,.ptr 0 0),(4,.int .i64)],[(0,.box [.sl (.int .i64),.sl (.int .i64),.int .i64,.sl tC])],1⟩
def Zde:StS:=⟨[(1,.ptr 0 0),(2,.undef)],[(0,.box [.sl (.int .i64),.sl (.int .i64),.int .i64,.sl tC])],1⟩
def Zdf:StS:=⟨[(1,.ptr 0 0),(2,.bool)],[(0,.box [.sl (.int .i64),.sl (.int .i64),.int .i64,.sl tC])],1⟩
def ZJt:StD Zk1→Zb6:=fun ((_,a,_),((b,c,d,e,_),_))=>(a,b,c,d,e)
def ZJ6:Zb6→StD Zk1:=fun (a,b,c,d,e)=>(((),a,()),((b,c,d,e,()),()))
def ZY7:StD Zde→Yj:=fun ((_,_,_),((a,b,c,d,_),_))=>(a,b,c,d)
def Zmm:Yj→StD Zde:=fun (a,b,c,d)=>(((),(),()),((a,b,c,d,()),()))
def ZY8:StD Zdf→Yk:=fun ((_,a,_),((b,c,d,e,_),_))=>(a,b,c,d,e)
def Zmn:Yk→StD Zdf:=fun (a,b,c,d,e)=>(((),a,()),((b,c,d,e,()),()))
def ZA9:Nat→Tm→Prog (Nat×Tm):=(varP 0 (fun T h=>(rdS Zk1 T h).map ZJt) Zft (fun y=>.alt y (altE 4 Zde Zmm) (altE 1 Zdf Zmn)) (fun _ _=>.fail))
def ZhI:Lpc:=⟨64,2,123,(fun base T=>.norm base (ZyX 0) T (ZA9 base)),by kernel_rfl,by kernel_rfl,(loopU Zib [WZ] 40 1048576 8 (keep:=ZyX) (q:=ZA9) (by kernel_rfl) (Zv (s:=Zk1) (un:=ZJ6) (by rfl) (fun _=>rfl) (ZW (Zn (s:=Zde) (un:=Zmm) (flat:=ZY7) (by rfl) (fun _=>rfl)) (Zn (s:=Zdf) (un:=Zmn) (flat:=ZY8) (by rfl) (fun _=>rfl))) (step:=ZvK) (fun _=>by kernel_rfl) (fun _ _ e=>⟨_,e⟩) (ZV (Zm 4 Zde Zmm) (Zm 1 Zdf Zmn)) (ZB.fail _ _)))⟩
abbrev Z2v:=cxU Zib [WZ,ZhI] 40 1048576
def Zk3:StS:=⟨[(1,.ptr 0 0),(5,.int .i64),(6,.ptr 1 0),(7,.int .i64),(8,.int .i64)],[(0,.box [.sl (.int .i64),.sl (.int .i64),.int .i64,.sl tC]),(1,.box [.int .i64,.sl tA])],2⟩
def Zdi:StS:=⟨[(1,.ptr 0 0),(2,.undef),(5,.int .i64)],[(0,.box [.sl (.int .i64),.sl (.int .i64),.int .i64,.sl tC])],1⟩
def Zdj:StS:=⟨[(1,.ptr 0 0),(2,.bool),(5,.int .i64)],[(0,.box [.sl (.int .i64),.sl (.int .i64),.int .i64,.sl tC])],1⟩
def ZJv:StD Zk3→Zb7:=fun ((_,a,_,b,c,_),((d,e,f,g,_),(h,i,_),_))=>(a,b,c,d,e,f,g,h,i)
def ZJ8:Zb7→StD Zk3:=fun (a,b,c,d,e,f,g,h,i)=>(((),a,(),b,c,()),((d,e,f,g,()),(h,i,()),()))
def ZZb:StD Zdi→Yl:=fun ((_,_,a,_),((b,c,d,e,_),_))=>(a,b,c,d,e)
def Zmq:Yl→StD Zdi:=fun (a,b,c,d,e)=>(((),(),a,()),((b,c,d,e,()),()))
def ZZc:StD Zdj→Ym:=fun ((_,a,b,_),((c,d,e,f,_),_))=>(a,b,c,d,e,f)
def Zmr:Ym→StD Zdj:=fun (a,b,c,d,e,f)=>(((),a,b,()),((c,d,e,f,()),()))
def ZBb:Nat→Tm→Prog (Nat×Tm):=(varP 0 (fun T h=>(rdS Zk3 T h).map ZJv) Zb2 (fun y=>.alt y (altE 8 Zdi Zmq) (altE 1 Zdj Zmr)) (fun _ _=>.fail))
def ZqK:Lpc:=⟨64,6,123,(fun base T=>.norm base (ZyZ 0) T (ZBb base)),by kernel_rfl,by kernel_rfl,(loopU Zib [WZ,ZhI] 40 1048576 8 (keep:=ZyZ) (q:=ZBb) (by kernel_rfl) (Zv (s:=Zk3) (un:=ZJ8) (by rfl) (fun _=>rfl) (ZW (Zn (s:=Zdi) (un:=Zmq) (flat:=ZZb) (by rfl) (fun _=>rfl)) (Zn (s:=Zdj) (un:=Zmr) (flat:=ZZc) (by rfl) (fun _=>rfl))) (step:=ZvM) (fun _=>by kernel_rfl) (fun _ _ e=>⟨_,e⟩) (ZV (Zm 8 Zdi Zmq) (Zm 1 Zdj Zmr)) (ZB.fail _ _)))⟩
abbrev Z2u:=cxU Zib [WZ,ZhI,ZqK] 40 1048576
def Zk2:StS:=⟨[(1,.ptr 0 0),(5,.int .i64)],[(0,.box [.sl (.int .i64),.sl (.int .i64),.int .i64,.sl tC])],1⟩
def Zdg:StS:=⟨[(2,.undef)],[],0⟩
def Zdh:StS:=⟨[(2,.bool)],[],0⟩
def ZJu:StD Zk2→Zfy:=fun ((_,a,_),((b,c,d,e,_),_))=>(a,b,c,d,e)
def ZJ7:Zfy→StD Zk2:=fun (a,b,c,d,e)=>(((),a,()),((b,c,d,e,()),()))
def ZY9 (d:StD Zdg):Zhw:=()
def Zmo (x:Zhw):StD Zdg:=(((),()),())
def ZZa (d:StD Zdh):Zhx:=(d.1.1)
def Zmp (x:Zhx):StD Zdh:=((x,()),())
def ZBa:Nat→Tm→Prog (Nat×Tm):=(varP 0 (fun T h=>(rdS Zk2 T h).map ZJu) Zfu (fun y=>.alt y (altE 6 Zdg Zmo) (altE 1 Zdh Zmp)) (fun _ _=>.fail))
def ZMA:Lpc:=⟨64,4,123,(fun base T=>.norm base (ZyY 0) T (ZBa base)),by kernel_rfl,by kernel_rfl,(loopU Zib [WZ,ZhI,ZqK] 40 1048576 8 (keep:=ZyY) (q:=ZBa) (by kernel_rfl) (Zv (s:=Zk2) (un:=ZJ7) (by rfl) (fun _=>rfl) (ZW (Zn (s:=Zdg) (un:=Zmo) (flat:=ZY9) (by rfl) (fun _=>rfl)) (Zn (s:=Zdh) (un:=Zmp) (flat:=ZZa) (by rfl) (fun _=>rfl))) (step:=ZvL) (fun _=>by kernel_rfl) (fun _ _ e=>⟨_,e⟩) (ZV (Zm 6 Zdg Zmo) (Zm 1 Zdh Zmp)) (ZB.fail _ _)))⟩
def Zzv:=conP true ZUJ (.dat .bool) Zpm
theorem ZKH:Zf Tryz.prog 64 Zzv:=Ze (calU Zib [WZ,ZhI,ZqK,ZMA] 40 1048576 8 64) true (by rfl) (by rfl) (fun x r e=>(Zk _ _ _ _ _ _ _).trans ((show _=Zpm x by kernel_rfl).trans e)) (.inl rfl)
def ZUI:List Sh:=[.dat tI]
def ZYU:List Con:=[⟨95,Vk,Za3⟩,⟨31,Zg4,Zlr⟩]
def ZHD (a0:I):Option Bool:=bif a0.1==1&&a0.2==0 then some true else bif decide (a0.1≤a0.2) then Za (Zo (a0.1,())) none fun d2=>bif d2 then Za (Zo (a0.2,())) none fun d3=>some d3 else some false else some false
def Zkf (x:I×Unit):Option Bool:=ZHD x.1
def Zzu:=conP true ZUI (.dat .bool) Zkf
theorem ZKG:Zf Tryz.prog 60 Zzu:=Ze (calU ZYU [] 40 1048576 8 60) true (by rfl) (by rfl) (fun x r e=>(Zk _ _ _ _ _ _ _).trans ((show _=Zkf x by kernel_rfl).trans e)) (.inl rfl)
theorem ZPC (x:I):ZHD x=some (isB x):=by
 unfold ZHD Zo isB
 simp only [Qf,Zb]
 cases (x.1==1&&x.2==0)
 ·cases decide (x.1≤x.2)
  ·rfl
  ·cases fitB x.1<;>rfl
 ·rfl
def ZQp:List Sh:=[.dat tU,.dat (.int .i64)]
def Zu8:Nat→List Nat:=fun c=>bif c.beq 0 then [1,2,5,6] else [2,4]
def ZIF:List Con:=[⟨64,Zzv,ZKH⟩]
def ZhS:StS:=⟨[(1,.int .i64),(2,.ptr 0 0),(5,.int .i64),(6,.int .i64)],[(0,.box [.sl (.int .i64),.sl (.int .i64),.int .i64,.sl tC])],1⟩
def Zay:StS:=⟨[(2,.ptr 0 0),(4,.undef)],[(0,.box [.sl (.int .i64),.sl (.int .i64),.int .i64,.sl tC])],1⟩
def Zaz:StS:=⟨[(2,.ptr 0 0),(4,.bool)],[(0,.box [.sl (.int .i64),.sl (.int .i64),.int .i64,.sl tC])],1⟩
abbrev VE:=(Int×Int×Int×(List Int)×(List Int)×Int×(List C))
def ZFE:StD ZhS→VE:=fun ((a,_,b,c,_),((d,e,f,g,_),_))=>(a,b,c,d,e,f,g)
def ZGK:VE→StD ZhS:=fun (a,b,c,d,e,f,g)=>((a,(),b,c,()),((d,e,f,g,()),()))
abbrev J3:=((List Int)×(List Int)×Int×(List C))
def ZWG:StD Zay→J3:=fun ((_,_,_),((a,b,c,d,_),_))=>(a,b,c,d)
def ZjU:J3→StD Zay:=fun (a,b,c,d)=>(((),(),()),((a,b,c,d,()),()))
abbrev J4:=(Bool×(List Int)×(List Int)×Int×(List C))
def ZWH:StD Zaz→J4:=fun ((_,a,_),((b,c,d,e,_),_))=>(a,b,c,d,e)
def ZjV:J4→StD Zaz:=fun (a,b,c,d,e)=>(((),a,()),((b,c,d,e,()),()))
def ZbI (s1 s5 s6:Int) (b0 b0_1:List Int) (b0_2:Int) (b0_3:List C):Option ((Int×Int×Int×(List Int)×(List Int)×Int×(List C))⊕(((List Int)×(List Int)×Int×(List C))⊕(Bool×(List Int)×(List Int)×Int×(List C)))):=bif decide (s6<(b0_3.length:Int)) then bif decide (0≤s6) then Za b0_3[s6.toNat]? none fun d9=>bif decide (IntKind.i64.wrap (s5+(List.length d9.2:Int))>s1) then some (.inr (.inr (true,b0,b0_1,b0_2,b0_3))) else some (.inl (s1,IntKind.i64.wrap (s5+(List.length d9.2:Int)),IntKind.i64.wrap (s6+1),b0,b0_1,b0_2,b0_3)) else none else some (.inr (.inl (b0,b0_1,b0_2,b0_3)))
def Zr2:VE→Option (VE⊕(J3⊕J4)):=fun (a,b,c,d,e,f,g)=>ZbI a b c d e f g
def ZcD (x:VE):Option (J3⊕J4):=Zh Zr2 Zl x
def Zxr:Nat→Tm→Prog (Nat×Tm):=(varP 0 (fun T h=>(rdS ZhS T h).map ZFE) ZcD (fun y=>.alt y (altE 2 Zay ZjU) (altE 1 Zaz ZjV)) (fun _ _=>.fail))
def ZJB:Lpc:=⟨48,0,45,(fun base T=>.norm base (Zu8 0) T (Zxr base)),by kernel_rfl,by kernel_rfl,(loopU ZIF [] 40 1048576 8 (keep:=Zu8) (q:=Zxr) (by kernel_rfl) (Zv (s:=ZhS) (un:=ZGK) (by rfl) (fun _=>rfl) (ZW (Zn (s:=Zay) (un:=ZjU) (flat:=ZWG) (by rfl) (fun _=>rfl)) (Zn (s:=Zaz) (un:=ZjV) (flat:=ZWH) (by rfl) (fun _=>rfl))) (step:=Zr2) (fun _=>by kernel_rfl) (fun _ _ e=>⟨_,e⟩) (ZV (Zm 2 Zay ZjU) (Zm 1 Zaz ZjV)) (ZB.fail _ _)))⟩
def ZzI (a0:U) (a1:Int):Option Bool:=bif decide ((List.length a0.2.2.2:Int)>4) then some true else bif decide ((List.length a0.1:Int)>10) then some true else bif decide ((List.length a0.2.1:Int)>10) then some true else Za (ZcD (a1,0,0,a0)) none fun d4=>Sum.elim (fun e5=>Za (Zpm (e5,())) none fun d6=>some !d6) (fun e5=>some e5.1) d4
def Zs0 (x:U×(Int×Unit)):Option Bool:=ZzI x.1 x.2.1
def ZEO:=conP true ZQp (.dat .bool) Zs0
theorem ZQW:Zf Tryz.prog 48 ZEO:=Ze (calU ZIF [ZJB] 40 1048576 8 48) true (by rfl) (by rfl) (fun x r e=>(Zk _ _ _ _ _ _ _).trans ((show _=Zs0 x by kernel_rfl).trans e)) (.inl rfl)
def HF (s1:Int) (b0 b0_1:List Int) (b0_2:Int) (b0_3:List C) (i:Nat) (s5:Int) (d:C):Option (Int⊕(J3⊕J4)):=
 bif decide (IntKind.i64.wrap (s5+(↑(List.length d.2):Int))>s1) then
  some (.inr (.inr (true,b0,b0_1,b0_2,b0_3)))
 else some (.inl (IntKind.i64.wrap (s5+(↑(List.length d.2):Int))))
def Zf2 (s1:Int) (b0 b0_1:List Int) (b0_2:Int) (b0_3:List C) (s5:Int):Option (J3⊕J4):=
 some (.inl (b0,b0_1,b0_2,b0_3))
abbrev ZGo (s1:Int) (b0 b0_1:List Int) (b0_2:Int) (b0_3:List C) (i:Nat) (s:Int):VE:=(s1,s,(i:Int),b0,b0_1,b0_2,b0_3)
def Zl2 (s1:Int) (b0 b0_1:List Int) (b0_2:Int) (b0_3:List C) (s:Int):Option (J3⊕J4):=Zp (fun i s d=>HF s1 b0 b0_1 b0_2 b0_3 i s d) (fun s=>Zf2 s1 b0 b0_1 b0_2 b0_3 s) 0 b0_3 s
theorem ZGc (s1:Int) (b0 b0_1:List Int) (b0_2:Int) (b0_3:List C) (s:Int) (hl:b0_3.length<9223372036854775807):ZcD (s1,s,0,b0,b0_1,b0_2,b0_3)=Zl2 s1 b0 b0_1 b0_2 b0_3 s:=by
 unfold ZcD Zl2
 refine Zs b0_3 (ZGo s1 b0 b0_1 b0_2 b0_3) _ _ ?_ ?_ s (by unfold Zl;omega)
 ·intro i s d hi hd
  have e1:decide ((i:Int)<(b0_3.length:Int))=true:=dT0 (by omega)
  have e2:decide (0≤(i:Int))=true:=dT0 (by omega)
  have e3:Int.toNat (i:Int)=i:=tN0 i
  have e4:=Zq hi (Nat.le_of_lt hl)
  show ZbI (s1) (s) ((i:Int)) (b0) (b0_1) (b0_2) (b0_3)=upd _ (HF s1 b0 b0_1 b0_2 b0_3 i s d)
  unfold ZbI HF
  simp only [e1,e2,e3,e4,hd,cond_true,cond_false,Zb,ZC,ZF,ZD,ZI,ZJ,ZE]
 ·intro s
  have e1:decide ((b0_3.length:Int)<(b0_3.length:Int))=false:=dF0 (by omega)
  show ZbI (s1) (s) ((b0_3.length:Int)) (b0) (b0_1) (b0_2) (b0_3)=_
  unfold ZbI Zf2
  rw [e1]
  rfl
def ZQw:List Sh:=[.dat tEn]
def ZTY:List Con:=[]
def ZEQ:=conP true ZQw (.dat (.int .i64)) Zot
theorem ZQY:Zf Tryz.prog 96 ZEQ:=Ze (calU ZTY [] 40 1048576 8 96) true (by rfl) (by rfl) (fun x r e=>(Zk _ _ _ _ _ _ _).trans ((show _=Zot x by kernel_rfl).trans e)) (.inl rfl)
def ZL4:List Sh:=[.dat tEn,.dat tEn]
def ZrL:Nat→List Nat:=fun c=>bif c.beq 0 then [5,6,7] else [4]
def ZBR:List Con:=[⟨96,ZEQ,ZQY⟩]
def ZeU:StS:=⟨[(5,.row 0),(6,.row 1),(7,.int .i64)],[(0,.row (.int .i64)),(1,.row (.int .i64))],2⟩
def Vd:StS:=⟨[(4,.undef)],[],0⟩
def Ve:StS:=⟨[(4,.int .i64)],[],0⟩
def ZAK:StD ZeU→WQ:=fun ((_,_,a,_),(b,c,_))=>(a,b,c)
def ZCb:WQ→StD ZeU:=fun (a,b,c)=>(((),(),a,()),(b,c,()))
def ZUt (d:StD Vd):Zcj:=()
def ZgU (x:Zcj):StD Vd:=(((),()),())
def ZUu (d:StD Ve):Zck:=(d.1.1)
def ZgV (x:Zck):StD Ve:=((x,()),())
def Zua:Nat→Tm→Prog (Nat×Tm):=(varP 0 (fun T h=>(rdS ZeU T h).map ZAK) Zef (fun y=>.alt y (altE 2 Vd ZgU) (altE 1 Ve ZgV)) (fun _ _=>.fail))
def ZF3:Lpc:=⟨61,0,48,(fun base T=>.norm base (ZrL 0) T (Zua base)),by kernel_rfl,by kernel_rfl,(loopU ZBR [] 40 1048576 8 (keep:=ZrL) (q:=Zua) (by kernel_rfl) (Zv (s:=ZeU) (un:=ZCb) (by rfl) (fun _=>rfl) (ZW (Zn (s:=Vd) (un:=ZgU) (flat:=ZUt) (by rfl) (fun _=>rfl)) (Zn (s:=Ve) (un:=ZgV) (flat:=ZUu) (by rfl) (fun _=>rfl))) (step:=K8) (fun _=>by kernel_rfl) (fun _ _ e=>⟨_,e⟩) (ZV (Zm 2 Vd ZgU) (Zm 1 Ve ZgV)) (ZB.fail _ _)))⟩
def Zqd:=conP true ZL4 (.dat (.int .i64)) Jd
theorem Zzb:Zf Tryz.prog 61 Zqd:=Ze (calU ZBR [ZF3] 40 1048576 8 61) true (by rfl) (by rfl) (fun x r e=>(Zk _ _ _ _ _ _ _).trans ((show _=Jd x by kernel_rfl).trans e)) (.inl rfl)
def ZRP:List Sh:=[.dat (.sl tEn)]
def Zw8:Nat→List Nat:=fun c=>bif c.beq 0 then [0,3] else [2]
def ZKO:List Con:=[⟨60,Zzu,ZKG⟩,⟨47,Qs,QP⟩,⟨61,Zqd,Zzb⟩]
def Zja:StS:=⟨[(0,.sl tEn),(3,.int .i64)],[],0⟩
def ZbY:StS:=⟨[(2,.undef)],[],0⟩
def ZbZ:StS:=⟨[(2,.bool)],[],0⟩
abbrev ZaW:=((List En)×Int)
def ZHs (d:StD Zja):ZaW:=(d.1.1,d.1.2.1)
def ZIS (x:ZaW):StD Zja:=((x.1,x.2,()),())
abbrev KK:=Unit
def ZYc (d:StD ZbY):KK:=()
def Zle (x:KK):StD ZbY:=(((),()),())
abbrev KL:=Bool
def ZYd (d:StD ZbZ):KL:=(d.1.1)
def Zlf (x:KL):StD ZbZ:=((x,()),())
def ZcZ (s0:List En) (s3:Int):Option (((List En)×Int)⊕(Unit⊕Bool)):=bif decide (s3<(s0.length:Int)) then bif decide (0≤s3) then Za s0[s3.toNat]? none fun d4=>Za (Zkf (d4.2.2.2.2,())) none fun d5=>bif !d5 then some (.inr (.inr false)) else bif decide (0≤s3) then Za s0[s3.toNat]? none fun d6=>bif decide (d6.2.2.2.2.1>d6.2.2.2.2.2) then some (.inr (.inr false)) else bif decide (0≤s3) then Za s0[s3.toNat]? none fun d7=>bif decide (d7.2.2.2.1<0) then some (.inr (.inr false)) else bif decide (0≤s3) then Za s0[s3.toNat]? none fun d8=>bif decide (d8.2.2.2.1≥2147483648) then some (.inr (.inr false)) else bif decide (s3>0) then bif decide (0≤IntKind.i64.wrap (s3 - 1)) then Za s0[(IntKind.i64.wrap (s3 - 1)).toNat]? none fun d9=>bif decide (0≤s3) then Za s0[s3.toNat]? none fun d10=>Za (Jd (d9,d10,())) none fun d11=>bif decide (d11≥0) then some (.inr (.inr false)) else some (.inl (s0,IntKind.i64.wrap (s3+1))) else none else none else some (.inl (s0,IntKind.i64.wrap (s3+1))) else none else none else none else none else some (.inr (.inl PUnit.unit))
def Zul (x:ZaW):Option (ZaW⊕(KK⊕KL)):=ZcZ x.1 x.2
def Zi0 (x:ZaW):Option (KK⊕KL):=Zh Zul Zl x
def Zy5:Nat→Tm→Prog (Nat×Tm):=(varP 0 (fun T h=>(rdS Zja T h).map ZHs) Zi0 (fun y=>.alt y (altE 2 ZbY Zle) (altE 1 ZbZ Zlf)) (fun _ _=>.fail))
def ZLr:Lpc:=⟨30,0,58,(fun base T=>.norm base (Zw8 0) T (Zy5 base)),by kernel_rfl,by kernel_rfl,(loopU ZKO [] 40 1048576 8 (keep:=Zw8) (q:=Zy5) (by kernel_rfl) (Zv (s:=Zja) (un:=ZIS) (by rfl) (fun _=>rfl) (ZW (Zn (s:=ZbY) (un:=Zle) (flat:=ZYc) (by rfl) (fun _=>rfl)) (Zn (s:=ZbZ) (un:=Zlf) (flat:=ZYd) (by rfl) (fun _=>rfl))) (step:=Zul) (fun _=>by kernel_rfl) (fun _ _ e=>⟨_,e⟩) (ZV (Zm 2 ZbY Zle) (Zm 1 ZbZ Zlf)) (ZB.fail _ _)))⟩
def ZCZ (a0:List En):Option Bool:=Za (Zi0 (a0,0)) none fun d3=>Sum.elim (fun e4=>some true) (fun e4=>some e4) d3
def Znx (x:(List En)×Unit):Option Bool:=ZCZ x.1
def ZwL:=conP false ZRP (.dat .bool) Znx
theorem ZIu:Zf Tryz.prog 30 ZwL:=Ze (calU ZKO [ZLr] 40 1048576 8 30) false (by rfl) (by rfl) (fun x r e=>(Zk _ _ _ _ _ _ _).trans ((show _=Znx x by kernel_rfl).trans e)) (.inr fun _=>rfl)
def Zhz  (s0:(List En)) (i:Nat)  (d:En):Option (Unit⊕(KK⊕KL)):=
 Za (Zkf (d.2.2.2.2,())) (none) fun d5=>
  bif !d5 then
  some (.inr (.inr false))
 else bif decide (d.2.2.2.2.1>d.2.2.2.2.2) then
  some (.inr (.inr false))
 else bif decide (d.2.2.2.1<0) then
  some (.inr (.inr false))
 else bif decide (d.2.2.2.1≥2147483648) then
  some (.inr (.inr false))
 else bif decide ((i:Int)>0) then
  bif decide (0≤IntKind.i64.wrap ((i:Int) - 1)) then
  Za s0[(IntKind.i64.wrap ((i:Int) - 1)).toNat]? (none) fun d9=>
  Za (Jd (d9,d,())) (none) fun d11=>
  bif decide (d11≥0) then
  some (.inr (.inr false))
 else some (.inl ())
 else none
 else some (.inl ())
def Ztu  (s0:(List En)):Option (KK⊕KL):=
 some (.inl PUnit.unit)
abbrev ZIp  (s0:(List En)) (i:Nat) (s:Unit):ZaW:=(s0,(i:Int))
def Zno  (s0:(List En)) (s:Unit):Option (KK⊕KL):=Zp (fun i s d=>Zhz  s0 i  d) (fun s=>Ztu  s0 ) 0 s0 s
theorem ZIl  (s0:(List En)) (s:Unit) (hl:s0.length<9223372036854775807):Zi0 (s0,0)=Zno  s0 s:=by
 unfold Zi0 Zno
 refine Zs s0 (ZIp  s0) _ _ ?_ ?_ s (by unfold Zl;omega)
 ·intro i s d hi hd
  have e1:decide ((i:Int)<(s0.length:Int))=true:=dT0 (by omega)
  have e2:decide (0≤(i:Int))=true:=dT0 (by omega)
  have e3:Int.toNat (i:Int)=i:=tN0 i
  have e4:=Zq hi (Nat.le_of_lt hl)
  show ZcZ (s0) ((i:Int))=upd _ (Zhz  s0 i  d)
  unfold ZcZ Zhz
  simp only [e1,e2,e3,e4,hd,cond_true,cond_false,Zb,ZC,ZF,ZD,ZI,ZJ,ZE]
 ·intro s
  have e1:decide ((s0.length:Int)<(s0.length:Int))=false:=dF0 (by omega)
  show ZcZ (s0) ((s0.length:Int))=_
  unfold ZcZ Ztu
  rw [e1]
  rfl
def ZNI:List Sh:=[.dat tU,.dat (.int .i64),.dat tE]
def ZtH:Nat→List Nat:=fun c=>bif c.beq 0 then [7,8] else [6]
def ZFd:List Con:=[⟨60,Zzu,ZKG⟩,⟨47,Qs,QP⟩]
def Zgc:StS:=⟨[(7,.row 0),(8,.int .i64)],[(0,.row tI)],1⟩
def V9:StS:=⟨[(6,.undef)],[],0⟩
def Wa:StS:=⟨[(6,.bool)],[],0⟩
abbrev Ht:=(Int×(List I))
def ZCz (d:StD Zgc):Ht:=(d.1.2.1,d.2.1)
def ZEj (x:Ht):StD Zgc:=(((),x.1,()),(x.2,()))
abbrev Jo:=Unit
def ZUX (d:StD V9):Jo:=()
def Ziy (x:Jo):StD V9:=(((),()),())
abbrev Jp:=Bool
def ZUY (d:StD Wa):Jp:=(d.1.1)
def Ziz (x:Jp):StD Wa:=((x,()),())
def W8 (s8:Int) (b0:List I):Option ((Int×(List I))⊕(Unit⊕Bool)):=bif decide (s8<(b0.length:Int)) then bif decide (0≤s8) then Za b0[s8.toNat]? none fun d4=>Za b0[s8.toNat]? none fun d5=>Za (Zkf (d5,())) none fun d6=>bif !d6 then some (.inr (.inr false)) else bif decide (0≤s8) then Za b0[s8.toNat]? none fun d7=>Za b0[s8.toNat]? none fun d8=>bif decide (d8.1>d8.2) then some (.inr (.inr false)) else some (.inl (IntKind.i64.wrap (s8+1),b0)) else none else none else some (.inr (.inl PUnit.unit))
def Zq9 (x:Ht):Option (Ht⊕(Jo⊕Jp)):=W8 x.1 x.2
def Zbj (x:Ht):Option (Jo⊕Jp):=Zh Zq9 Zl x
def Zvp:Nat→Tm→Prog (Nat×Tm):=(varP 0 (fun T h=>(rdS Zgc T h).map ZCz) Zbj (fun y=>.alt y (altE 2 V9 Ziy) (altE 1 Wa Ziz)) (fun _ _=>.fail))
def ZHR:Lpc:=⟨35,0,86,(fun base T=>.norm base (ZtH 0) T (Zvp base)),by kernel_rfl,by kernel_rfl,(loopU ZFd [] 40 1048576 8 (keep:=ZtH) (q:=Zvp) (by kernel_rfl) (Zv (s:=Zgc) (un:=ZEj) (by rfl) (fun _=>rfl) (ZW (Zn (s:=V9) (un:=Ziy) (flat:=ZUX) (by rfl) (fun _=>rfl)) (Zn (s:=Wa) (un:=Ziz) (flat:=ZUY) (by rfl) (fun _=>rfl))) (step:=Zq9) (fun _=>by kernel_rfl) (fun _ _ e=>⟨_,e⟩) (ZV (Zm 2 V9 Ziy) (Zm 1 Wa Ziz)) (ZB.fail _ _)))⟩
def WX (a0:U) (a1:Int) (a2:E):Option Bool:=bif decide (0≤a1) then Za a0.2.2.2[a1.toNat]? none fun d5=>bif (List.length a2.2.1:Int) !=d5.1 then some false else bif (List.length a2.2.2.1:Int) !=(List.length a0.1:Int) then some false else bif (List.length a2.2.2.2.1:Int) !=(List.length a0.2.1:Int) then some false else bif decide (a2.2.2.2.2.1<0) then some false else bif decide (a2.2.2.2.2.2<0) then some false else bif decide (a2.2.2.2.2.1≥2147483648) then some false else bif decide (a2.2.2.2.2.2≥2147483648) then some false else bif decide (((List.length (α:=I) [])+List.length a2.2.1+1)*16≤lim) then bif decide ((([]++a2.2.1).length+List.length a2.2.2.1+1)*16≤lim) then bif decide ((([]++a2.2.1++a2.2.2.1).length+List.length a2.2.2.2.1+1)*16≤lim) then Za (Zbj (0,[]++a2.2.1++a2.2.2.1++a2.2.2.2.1)) none fun d6=>Sum.elim (fun e7=>some true) (fun e7=>some e7) d6 else none else none else none else none
def Yb (x:(U×(Int×(E×Unit)))):Option Bool:=WX x.1 x.2.1 x.2.2.1
def Zsk:=conP true ZNI (.dat .bool) Yb
theorem ZBF:Zf Tryz.prog 35 Zsk:=Ze (calU ZFd [ZHR] 40 1048576 8 35) true (by rfl) (by rfl) (fun x r e=>(Zk _ _ _ _ _ _ _).trans ((show _=Yb x by kernel_rfl).trans e)) (.inl rfl)
def Zeu  (b0:(List I)) (i:Nat)  (d:I):Option (Unit⊕(Jo⊕Jp)):=
 Za (Zkf (d,())) (none) fun d6=>
  bif !d6 then
  some (.inr (.inr false))
 else bif decide (d.1>d.2) then
  some (.inr (.inr false))
 else some (.inl ())
def Zqm  (b0:(List I)):Option (Jo⊕Jp):=
 some (.inl PUnit.unit)
abbrev ZDQ  (b0:(List I)) (i:Nat) (s:Unit):Ht:=((i:Int),b0)
def ZkM  (b0:(List I)) (s:Unit):Option (Jo⊕Jp):=Zp (fun i s d=>Zeu  b0 i  d) (fun s=>Zqm  b0 ) 0 b0 s
theorem ZDF  (b0:(List I)) (s:Unit) (hl:b0.length<9223372036854775807):Zbj (0,b0)=ZkM  b0 s:=by
 unfold Zbj ZkM
 refine Zs b0 (ZDQ  b0) _ _ ?_ ?_ s (by unfold Zl;omega)
 ·intro i s d hi hd
  have e1:decide ((i:Int)<(b0.length:Int))=true:=dT0 (by omega)
  have e2:decide (0≤(i:Int))=true:=dT0 (by omega)
  have e3:Int.toNat (i:Int)=i:=tN0 i
  have e4:=Zq hi (Nat.le_of_lt hl)
  show W8 ((i:Int)) (b0)=upd _ (Zeu  b0 i  d)
  unfold W8 Zeu
  simp only [e1,e2,e3,e4,hd,cond_true,cond_false,Zb,ZC,ZF,ZD,ZI,ZJ,ZE]
 ·intro s
  have e1:decide ((b0.length:Int)<(b0.length:Int))=false:=dF0 (by omega)
  show W8 ((b0.length:Int)) (b0)=_
  unfold W8 Zqm
  rw [e1]
  rfl
def ZLZ:List Sh:=[.dat tU,.dat (.int .i64),.dat (.sl tEn)]
def ZOS:List Con:=[⟨48,ZEO,ZQW⟩,⟨30,ZwL,ZIu⟩]
def ZoW (a0:U) (a1:Int) (a2:List En):Option Bool:=Za (Zs0 (a0,45,())) none fun d4=>bif !d4 then bif decide (a1≥0) then bif decide (a1<(List.length a0.2.2.2:Int)) then bif decide ((a2.length:Int)≤20) then Za (Znx (a2,())) none fun d5=>some d5 else some false else some false else some false else some false
def Kh (x:(U×(Int×((List En)×Unit)))):Option Bool:=ZoW x.1 x.2.1 x.2.2.1
def ZhB:=conP true ZLZ (.dat .bool) Kh
theorem ZmB:Zf Tryz.prog 22 ZhB:=Ze (calU ZOS [] 40 1048576 8 22) true (by rfl) (by rfl) (fun x r e=>(Zk _ _ _ _ _ _ _).trans ((show _=Kh x by kernel_rfl).trans e)) (.inl rfl)
theorem ZR9 (most:Int) (U0:List Int) (U1:List Int) (U2:Int) (U3:List C):∀ (l:List C) (i:Nat) (s:Int),
  Zp (fun i s d=>HF most U0 U1 U2 U3 i s d) (fun s=>Zf2 most U0 U1 U2 U3 s) i l s=some (.inl (U0,U1,U2,U3)) ∨
  Zp (fun i s d=>HF most U0 U1 U2 U3 i s d) (fun s=>Zf2 most U0 U1 U2 U3 s) i l s=some (.inr (true,U0,U1,U2,U3))
 | [],i,s=>.inl rfl
 | d::r,i,s=>by
  simp only [Zp]
  have h:HF most U0 U1 U2 U3 i s d=bif decide (IntKind.i64.wrap (s+(d.2.length:Int))>most) then some (.inr (.inr (true,U0,U1,U2,U3))) else some (.inl (IntKind.i64.wrap (s+(d.2.length:Int)))):=rfl
  rw [h]
  cases decide (IntKind.i64.wrap (s+(d.2.length:Int))>most)
  ·exact ZR9 most U0 U1 U2 U3 r (i+1) _
  ·exact .inr rfl
theorem ZVy (u:U) (most:Int) (hs:sizeU u):∃ b,ZzI u most=some b∧(b=false→unitOK u):=by
 unfold ZzI Zpm
 by_cases h1:(u.2.2.2.length:Int)>4
 ·rw [dT0 h1];exact ⟨_,rfl,fun k=>nomatch k⟩
 by_cases h2:(u.1.length:Int)>10
 ·rw [dF0 h1,dT0 h2];exact ⟨_,rfl,fun k=>nomatch k⟩
 by_cases h3:(u.2.1.length:Int)>10
 ·rw [dF0 h1,dF0 h2,dT0 h3];exact ⟨_,rfl,fun k=>nomatch k⟩
 rw [dF0 h1,dF0 h2,dF0 h3]
 simp only [cond_false]
 have q:=ZGc most u.1 u.2.1 u.2.2.1 u.2.2.2 0 hs.2.2.1
 have q2:ZcD (most,0,0,u)=_:=q
 rw [q2]
 unfold Zl2
 rcases ZR9 most u.1 u.2.1 u.2.2.1 u.2.2.2 u.2.2.2 0 0 with h | h
 ·rw [h]
  simp only [Zb,Sum.elim_inl]
  obtain ⟨b,hb,hk⟩:=ZPD u hs
  have hb2:ZtA (u.1,u.2.1,u.2.2.1,u.2.2.2)=some b:=hb
  rw [hb2]
  refine ⟨!b,rfl,fun k=>hk (by simpa using k)⟩
 ·rw [h]
  exact ⟨true,rfl,fun k=>nomatch k⟩
theorem ZMH (l:List En) (hl:l.length<9223372036854775807):ZCZ l=some (ZAR l):=by
 unfold ZCZ
 rw [ZIl l () hl]
 unfold Zno
 rw [Vo (p:=Zwz l) (o:=.inr false) l 0 fun j d hd=>?_]
 ·unfold ZAR
  cases allIx (Zwz l) 0 l<;>rfl
 ·have hj:j<l.length:=(List.getElem?_eq_some_iff.1 hd).1
  unfold Zhz Zkf Jd Zwz entB
  simp only [ZPC,Zlo,Zb,Nat.zero_add]
  cases isB d.2.2.2.2
  ·rfl
  by_cases h1:d.2.2.2.2.1>d.2.2.2.2.2
  ·rw [dT0 h1,show Zd d.2.2.2.2=true from ZnB h1];rfl
  rw [dF0 h1,show Zd d.2.2.2.2=false from Z8 (Int.not_lt.1 h1)]
  by_cases h2:d.2.2.2.1<0
  ·rw [dT0 h2];rfl
  by_cases h3:d.2.2.2.1≥2147483648
  ·rw [dF0 h2,dT0 h3];rfl
  rw [dF0 h2,dF0 h3]
  by_cases h4:j>0
  ·rw [show decide ((j:Int)>0)=true from dT0 (by omega),dT0 h4]
   have e5:IntKind.i64.wrap ((j:Int) - 1)=((j - 1:Nat):Int):=by rw [Znt (by omega) (by omega)];omega
   rw [e5,show decide (0≤((j - 1:Nat):Int))=true from dT0 (by omega),tN0]
   obtain ⟨p,hp⟩:∃ p,l[j - 1]? = some p:=⟨l[j - 1]'(by omega),List.getElem?_eq_getElem _⟩
   rw [hp]
   simp only [cond_true,cond_false,Zb,Option.elim_some,Bool.not_true,Bool.not_false,Bool.true_and]
   cases decide (ordI p d≥0)<;>rfl
  ·rw [show decide ((j:Int)>0)=false from dF0 (by omega),dF0 h4];rfl
theorem ZPi (l:List I) (hl:l.length<9223372036854775807):Zbj (0,l)=bif l.all (fun x=>isB x && !Zd x) then some (.inl ()) else some (.inr false):=by
 rw [ZDF l () hl]
 unfold ZkM
 rw [Vo (p:=fun _ x=>isB x && !Zd x) (o:=.inr false) l 0 fun j d hd=>?_,Zpn]
 ·rfl
 ·unfold Zeu Zkf
  simp only [ZPC,Zb]
  cases isB d
  ·rfl
  by_cases h1:d.1>d.2
  ·rw [dT0 h1,ZnB h1];rfl
  ·rw [dF0 h1,Z8 (by omega)];rfl
theorem ZZ8 {a b:Int}:(a !=b) = !decide (a=b):=by
 by_cases h:a=b<;>simp [h,bne]
theorem ZTb (u:U) (t:Int) (e:E) (hu:unitOK u) (h0:0≤t) (ht:t<(u.2.2.2.length:Int)):∃ b,WX u t e=some b∧(b=true→envOK u t e):=by
 obtain ⟨c,hc⟩:∃ c,u.2.2.2[t.toNat]? = some c:=⟨u.2.2.2[t.toNat]'(by omega),List.getElem?_eq_getElem _⟩
 have co:=hu.ts c (mG0 hc)
 unfold WX
 rw [show decide (0≤t)=true from dT0 h0,hc]
 simp only [cond_true,Zb,ZZ8]
 by_cases h1:(e.2.1.length:Int)=c.1
 case neg=>rw [dF0 h1];exact ⟨_,rfl,fun k=>nomatch k⟩
 by_cases h2:(e.2.2.1.length:Int)=(u.1.length:Int)
 case neg=>rw [dT0 h1,dF0 h2];exact ⟨_,rfl,fun k=>nomatch k⟩
 by_cases h3:(e.2.2.2.1.length:Int)=(u.2.1.length:Int)
 case neg=>rw [dT0 h1,dT0 h2,dF0 h3];exact ⟨_,rfl,fun k=>nomatch k⟩
 by_cases h4:e.2.2.2.2.1<0
 case pos=>rw [dT0 h1,dT0 h2,dT0 h3,dT0 h4];exact ⟨_,rfl,fun k=>nomatch k⟩
 by_cases h5:e.2.2.2.2.2<0
 case pos=>rw [dT0 h1,dT0 h2,dT0 h3,dF0 h4,dT0 h5];exact ⟨_,rfl,fun k=>nomatch k⟩
 by_cases h6:e.2.2.2.2.1≥2147483648
 case pos=>rw [dT0 h1,dT0 h2,dT0 h3,dF0 h4,dF0 h5,dT0 h6];exact ⟨_,rfl,fun k=>nomatch k⟩
 by_cases h7:e.2.2.2.2.2≥2147483648
 case pos=>rw [dT0 h1,dT0 h2,dT0 h3,dF0 h4,dF0 h5,dF0 h6,dT0 h7];exact ⟨_,rfl,fun k=>nomatch k⟩
 rw [dT0 h1,dT0 h2,dT0 h3,dF0 h4,dF0 h5,dF0 h6,dF0 h7]
 have b1:=co.v
 have b2:=hu.g
 have b3:=hu.a
 simp only [List.nil_append,List.length_append,List.length_nil,Nat.zero_add]
 rw [show decide ((e.2.1.length+1)*16≤lim)=true from dT0 (by unfold lim;omega),show decide ((e.2.1.length+e.2.2.1.length+1)*16≤lim)=true from dT0 (by unfold lim;omega),show decide ((e.2.1.length+e.2.2.1.length+e.2.2.2.1.length+1)*16≤lim)=true from dT0 (by unfold lim;omega)]
 simp only [Bool.not_true,cond_false,cond_true]
 rw [ZPi _ (by simp only [List.length_append];omega)]
 cases hv:(e.2.1++e.2.2.1++e.2.2.2.1).all fun x=>isB x && !Zd x
 ·exact ⟨_,rfl,fun k=>nomatch k⟩
 refine ⟨_,rfl,fun _=>⟨⟨c,hc,h1⟩,by omega,by omega,by omega,by omega,fun x hx=>?_⟩⟩
 have:=List.all_eq_true.1 hv x hx
 simpa using this
theorem Zg6 (u:U) (t:Int) (l:List En) (hs:sizeU u) (hl:l.length<9223372036854775807):∃ b,ZoW u t l=some b∧(b=true→askedOK u t l):=by
 unfold ZoW Zs0 Znx
 obtain ⟨b,hb,hk⟩:=ZVy u 45 hs
 simp only [hb,Zb,ZMH l hl]
 cases b
 case true=>exact ⟨_,rfl,fun k=>nomatch k⟩
 have hu:=hk rfl
 by_cases h1:t≥0
 case neg=>rw [dF0 h1];exact ⟨_,rfl,fun k=>nomatch k⟩
 by_cases h2:t<(u.2.2.2.length:Int)
 case neg=>rw [dT0 h1,dF0 h2];exact ⟨_,rfl,fun k=>nomatch k⟩
 by_cases h3:(l.length:Int)≤20
 ·rw [dT0 h1,dT0 h2,dT0 h3]
  exact ⟨ZAR l,rfl,fun k=>⟨hu,⟨h1,h2⟩,by omega,ZPw k⟩⟩
 ·rw [dT0 h1,dT0 h2,dF0 h3]
  exact ⟨_,rfl,fun k=>nomatch k⟩
def ZQE:List Sh:=[.dat (.int .i64),.dat (.sl (.int .i64))]
def ZtQ:Nat→List Nat:=fun c=>bif c.beq 0 then [0,1,5] else [0]
def ZIL:List Con:=[]
def Zgn:StS:=⟨[(0,.int .i64),(1,.sl (.int .i64)),(5,.int .i64)],[],0⟩
def Wr:StS:=⟨[(0,.int .i64)],[],0⟩
def ZCK:StD Zgn→HA:=fun ((a,b,c,_),_)=>(a,b,c)
def ZEu:HA→StD Zgn:=fun (a,b,c)=>((a,b,c,()),())
def ZVf (d:StD Wr):JC:=(d.1.1)
def ZiQ (x:JC):StD Wr:=((x,()),())
def Zvy:Nat→Tm→Prog (Nat×Tm):=(varP 0 (fun T h=>(rdS Zgn T h).map ZCK) Zbk (altE 2 Wr ZiQ) (fun _ _=>.fail))
def ZHX:Lpc:=⟨121,0,33,(fun base T=>.norm base (ZtQ 0) T (Zvy base)),by kernel_rfl,by kernel_rfl,(loopU ZIL [] 40 1048576 8 (keep:=ZtQ) (q:=Zvy) (by kernel_rfl) (Zv (s:=Zgn) (un:=ZEu) (by rfl) (fun _=>rfl) (Zn (s:=Wr) (un:=ZiQ) (flat:=ZVf) (by rfl) (fun _=>rfl)) (step:=Zrk) (fun _=>by kernel_rfl) (fun _ _ e=>⟨_,e⟩) (Zm 2 Wr ZiQ) (ZB.fail _ _)))⟩
def ZES:=conP true ZQE (.dat (.int .i64)) Zie
theorem ZQ0:Zf Tryz.prog 121 ZES:=Ze (calU ZIL [ZHX] 40 1048576 8 121) true (by rfl) (by rfl) (fun x r e=>(Zk _ _ _ _ _ _ _).trans ((show _=Zie x by kernel_rfl).trans e)) (.inl rfl)
def ZK7:List Sh:=[.dat (.int .i64),.dat (.sl (.int .i64))]
def Zpw:Nat→List Nat:=fun c=>bif c.beq 0 then [0,1,5] else [0]
def Zzh:List Con:=[]
def Zcv:StS:=⟨[(0,.int .i64),(1,.sl (.int .i64)),(5,.int .i64)],[],0⟩
def Yy:StS:=⟨[(0,.int .i64)],[],0⟩
def Zyk:StD Zcv→KF:=fun ((a,b,c,_),_)=>(a,b,c)
def Zyz:KF→StD Zcv:=fun (a,b,c)=>((a,b,c,()),())
def ZRm (d:StD Yy):Qx:=(d.1.1)
def Ze5 (x:Qx):StD Yy:=((x,()),())
def ZqS:Nat→Tm→Prog (Nat×Tm):=(varP 0 (fun T h=>(rdS Zcv T h).map Zyk) HR (altE 2 Yy Ze5) (fun _ _=>.fail))
def ZAZ:Lpc:=⟨122,0,33,(fun base T=>.norm base (Zpw 0) T (ZqS base)),by kernel_rfl,by kernel_rfl,(loopU Zzh [] 40 1048576 8 (keep:=Zpw) (q:=ZqS) (by kernel_rfl) (Zv (s:=Zcv) (un:=Zyz) (by rfl) (fun _=>rfl) (Zn (s:=Yy) (un:=Ze5) (flat:=ZRm) (by rfl) (fun _=>rfl)) (step:=Zn1) (fun _=>by kernel_rfl) (fun _ _ e=>⟨_,e⟩) (Zm 2 Yy Ze5) (ZB.fail _ _)))⟩
def ZwO:=conP true ZK7 (.dat (.int .i64)) Zb1
theorem ZLQ:Zf Tryz.prog 122 ZwO:=Ze (calU Zzh [ZAZ] 40 1048576 8 122) true (by rfl) (by rfl) (fun x r e=>(Zk _ _ _ _ _ _ _).trans ((show _=Zb1 x by kernel_rfl).trans e)) (.inl rfl)
def ZRY:List Sh:=[.dat tI,.dat tI]
def ZV1:List Con:=[⟨95,Vk,Za3⟩]
def ZHe:=conP true ZRY (.dat tI) ZvV
theorem ZTH:Zf Tryz.prog 165 ZHe:=Ze (calU ZV1 [] 40 1048576 8 165) true (by rfl) (by rfl) (fun x r e=>(Zk _ _ _ _ _ _ _).trans ((show _=ZvV x by kernel_rfl).trans e)) (.inl rfl)
def ZRU:List Sh:=[.dat tI,.dat (.int .i64)]
def ZVX:List Con:=[]
def ZHc:=conP true ZRU (.dat .bool) Zp2
theorem ZTF:Zf Tryz.prog 164 ZHc:=Ze (calU ZVX [] 40 1048576 8 164) true (by rfl) (by rfl) (fun x r e=>(Zk _ _ _ _ _ _ _).trans ((show _=Zp2 x by kernel_rfl).trans e)) (.inl rfl)
def ZQD:List Sh:=[.dat (.int .i64),.dat (.int .i64)]
def ZT3:List Con:=[⟨95,Vk,Za3⟩]
def Zll:=conP true ZQD (.dat tI) Z3
theorem Zo3:Zf Tryz.prog 167 Zll:=Ze (calU ZT3 [] 40 1048576 8 167) true (by rfl) (by rfl) (fun x r e=>(Zk _ _ _ _ _ _ _).trans ((show _=Z3 x by kernel_rfl).trans e)) (.inl rfl)
def ZQC:List Sh:=[.dat (.int .i64),.dat (.int .i64)]
def ZT2:List Con:=[⟨167,Zll,Zo3⟩]
def ZuB:=conP true ZQC (.tup [.dat tI,.dat .bool]) HO
theorem ZE8:Zf Tryz.prog 161 ZuB:=Ze (calU ZT2 [] 40 1048576 8 161) true (by rfl) (by rfl) (fun x r e=>(Zk _ _ _ _ _ _ _).trans ((show _=HO x by kernel_rfl).trans e)) (.inl rfl)
def ZK6:List Sh:=[.dat tI,.dat tI,.dat .bool]
def Zpv:Nat→List Nat:=fun c=>bif c.beq 0 then [8,9,10,11] else [9,10]
def Zzg:List Con:=[]
def Zcu:StS:=⟨[(8,.row 0),(9,.int .i64),(10,.int .i64),(11,.int .i64)],[(0,.row (.int .i64))],1⟩
def Yx:StS:=⟨[(9,.int .i64),(10,.int .i64)],[],0⟩
def Zyj:StD Zcu→HS:=fun ((_,a,b,c,_),(d,_))=>(a,b,c,d)
def Zyy:HS→StD Zcu:=fun (a,b,c,d)=>(((),a,b,c,()),(d,()))
def ZRl (d:StD Yx):WR:=(d.1.1,d.1.2.1)
def Ze4 (x:WR):StD Yx:=((x.1,x.2,()),())
def ZqR:Nat→Tm→Prog (Nat×Tm):=(varP 0 (fun T h=>(rdS Zcu T h).map Zyj) HQ (altE 2 Yx Ze4) (fun _ _=>.fail))
def ZAY:Lpc:=⟨162,0,79,(fun base T=>.norm base (Zpv 0) T (ZqR base)),by kernel_rfl,by kernel_rfl,(loopU Zzg [] 40 1048576 8 (keep:=Zpv) (q:=ZqR) (by kernel_rfl) (Zv (s:=Zcu) (un:=Zyy) (by rfl) (fun _=>rfl) (Zn (s:=Yx) (un:=Ze4) (flat:=ZRl) (by rfl) (fun _=>rfl)) (step:=Y8) (fun _=>by kernel_rfl) (fun _ _ e=>⟨_,e⟩) (Zm 2 Yx Ze4) (ZB.fail _ _)))⟩
def Zpa:=conP true ZK6 (.tup [.dat (.int .i64),.dat (.int .i64)]) Zfh
theorem ZxQ:Zf Tryz.prog 162 Zpa:=Ze (calU Zzg [ZAY] 40 1048576 8 162) true (by rfl) (by rfl) (fun x r e=>(Zk _ _ _ _ _ _ _).trans ((show _=Zfh x by kernel_rfl).trans e)) (.inl rfl)
def ZQB:List Sh:=[.dat tI,.dat tI]
def ZT1:List Con:=[⟨167,Zll,Zo3⟩]
def Zlk:=conP true ZQB (.dat tI) ZY
theorem Zo2:Zf Tryz.prog 118 Zlk:=Ze (calU ZT1 [] 40 1048576 8 118) true (by rfl) (by rfl) (fun x r e=>(Zk _ _ _ _ _ _ _).trans ((show _=ZY x by kernel_rfl).trans e)) (.inl rfl)
def ZRX:List Sh:=[.dat tI,.dat tI]
def ZV0:List Con:=[⟨95,Vk,Za3⟩,⟨118,Zlk,Zo2⟩,⟨47,Qs,QP⟩,⟨162,Zpa,ZxQ⟩,⟨161,ZuB,ZE8⟩,⟨19,Kn,YD⟩]
def ZHd:=conP true ZRX (.tup [.dat tI,.dat .bool]) ZvU
theorem ZTG:Zf Tryz.prog 163 ZHd:=Ze (calU ZV0 [] 40 1048576 8 163) true (by rfl) (by rfl) (fun x r e=>(Zk _ _ _ _ _ _ _).trans ((show _=ZvU x by kernel_rfl).trans e)) (.inl rfl)
def ZUH:List Sh:=[.dat (.int .i64),.dat tI,.dat tI]
def ZYT:List Con:=[⟨47,Qs,QP⟩,⟨95,Vk,Za3⟩,⟨161,ZuB,ZE8⟩,⟨162,Zpa,ZxQ⟩,⟨163,ZHd,ZTG⟩,⟨164,ZHc,ZTF⟩,⟨165,ZHe,ZTH⟩]
def ZKj:=conP true ZUH (.tup [.dat tI,.dat .bool,.dat .bool]) ZyD
theorem ZVO:Zf Tryz.prog 116 ZKj:=Ze (calU ZYT [] 40 1048576 8 116) true (by rfl) (by rfl) (fun x r e=>(Zk _ _ _ _ _ _ _).trans ((show _=ZyD x by kernel_rfl).trans e)) (.inl rfl)
def ZNW:List Sh:=[.dat tI,.dat tI]
def ZRd:List Con:=[⟨167,Zll,Zo3⟩]
def ZAv:=conP true ZNW (.dat tI) ZmK
theorem ZON:Zf Tryz.prog 168 ZAv:=Ze (calU ZRd [] 40 1048576 8 168) true (by rfl) (by rfl) (fun x r e=>(Zk _ _ _ _ _ _ _).trans ((show _=ZmK x by kernel_rfl).trans e)) (.inl rfl)
def ZL6:List Sh:=[.dat (.int .i64),.dat tI,.dat tI]
def ZOU:List Con:=[⟨47,Qs,QP⟩,⟨95,Vk,Za3⟩,⟨167,Zll,Zo3⟩,⟨118,Zlk,Zo2⟩,⟨168,ZAv,ZON⟩]
def ZyM:=conP true ZL6 (.tup [.dat tI,.dat tI]) Zli
theorem ZM8:Zf Tryz.prog 123 ZyM:=Ze (calU ZOU [] 40 1048576 8 123) true (by rfl) (by rfl) (fun x r e=>(Zk _ _ _ _ _ _ _).trans ((show _=Zli x by kernel_rfl).trans e)) (.inl rfl)
def ZRV:List Sh:=[.dat tI,.dat tI]
def ZVY:List Con:=[⟨47,Qs,QP⟩]
def Zqf:=conP true ZRV (.dat .bool) JX
theorem ZxP:Zf Tryz.prog 66 Zqf:=Ze (calU ZVY [] 40 1048576 8 66) true (by rfl) (by rfl) (fun x r e=>(Zk _ _ _ _ _ _ _).trans ((show _=JX x by kernel_rfl).trans e)) (.inl rfl)
def ZNS:List Sh:=[.dat tE,.dat (.int .i64),.dat tI]
def ZRb:List Con:=[]
def ZnA:=conP true ZNS (.dat tE) Zw
theorem ZsS:Zf Tryz.prog 83 ZnA:=Ze (calU ZRb [] 40 1048576 8 83) true (by rfl) (by rfl) (fun x r e=>(Zk _ _ _ _ _ _ _).trans ((show _=Zw x by kernel_rfl).trans e)) (.inl rfl)
def ZNP:List Sh:=[.dat (.int .i64),.dat tE,.dat (.sl tEn),.dat .bool,.dat (.int .i64)]
def ZQ9:List Con:=[⟨117,Zsn,ZBI⟩,⟨19,Kn,YD⟩]
def ZAs:=conP true ZNP (.dat tI) Qm
theorem ZOK:Zf Tryz.prog 86 ZAs:=Ze (calU ZQ9 [] 40 1048576 8 86) true (by rfl) (by rfl) (fun x r e=>(Zk _ _ _ _ _ _ _).trans ((show _=Qm x by kernel_rfl).trans e)) (.inl rfl)
theorem Zfe {α Y:Type} {f:Nat→Unit→α→Option (Unit⊕Y)} {fin:Unit→Option Y}:∀ (l:List α) (i:Nat),(∀ j d,l[j]? = some d→f (i+j) () d=some (.inl ()))→Zp f fin i l ()=fin ()
 | [],_,_=>rfl
 | d::r,i,h=>by
  rw [Qq (by have:=h 0 d rfl;rwa [Nat.add_zero] at this)]
  exact Zfe r (i+1) fun j d hd=>by rw [Nat.add_right_comm];exact h (j+1) d hd
def ZNQ:List Sh:=[.dat (.int .i64),.dat tA,.dat tE,.dat (.sl tEn)]
def ZtL:Nat→List Nat:=fun c=>bif c.beq 0 then [0,3,5,6,8,9,10,11] else [0,3,5,6,8,9,10]
def ZtM:Nat→List Nat:=fun c=>bif c.beq 0 then [0,3,5,6,8,9,10,12] else [5,6,8,9,10]
def Zo4:List Con:=[⟨119,Zqg,ZxR⟩,⟨120,ZwK,ZLO⟩,⟨19,Kn,YD⟩,⟨121,ZES,ZQ0⟩]
def Zgh:StS:=⟨[(0,.int .i64),(3,.sl tEn),(5,.ptr 0 0),(6,.ptr 1 0),(8,.ptr 2 0),(9,.ptr 3 0),(10,.ptr 5 0),(11,.int .i64)],[(0,.box [.int .i64,.int .i64,.int .i64,.int .i64,.int .i64,.int .i64,.int .i64,.int .i64,.int .i64]),(1,.box [.bool,.sl tI,.sl tI,.sl tI,.int .i64,.int .i64]),(2,.box [.bool,.nil,.nil,.nil,.int .i64,.int .i64,.bool,.nil,.nil,.nil,.int .i64,.int .i64,.nil,.nil,.nil]),(3,.box [.bool,.nil,.nil,.nil,.int .i64,.int .i64,.bool,.nil,.nil,.nil,.int .i64,.int .i64,.row 4,.nil,.nil]),(4,.row (.int .i64)),(5,.box [.bool,.sl tI,.row 6,.row 7,.int .i64,.int .i64]),(6,.row tI),(7,.row tI)],8⟩
def Wi:StS:=⟨[(0,.int .i64),(3,.sl tEn),(5,.ptr 0 0),(6,.ptr 1 0),(8,.ptr 2 0),(9,.ptr 3 0),(10,.ptr 5 0)],[(0,.box [.int .i64,.int .i64,.int .i64,.int .i64,.int .i64,.int .i64,.int .i64,.int .i64,.int .i64]),(1,.box [.bool,.sl tI,.sl tI,.sl tI,.int .i64,.int .i64]),(2,.box [.bool,.nil,.nil,.nil,.int .i64,.int .i64,.bool,.nil,.nil,.nil,.int .i64,.int .i64,.nil,.nil,.nil]),(3,.box [.bool,.nil,.nil,.nil,.int .i64,.int .i64,.bool,.nil,.nil,.nil,.int .i64,.int .i64,.row 4,.nil,.nil]),(4,.row (.int .i64)),(5,.box [.bool,.sl tI,.row 6,.row 7,.int .i64,.int .i64]),(6,.row tI),(7,.row tI)],8⟩
def ZCE:StD Zgh→Zbs:=fun ((a,b,_,_,_,_,_,c,_),((d,e,f,g,h,i,j,k,l,_),(m,n,o,p,q,r,_),(s,_,_,_,t,u,w,_,_,_,y,z,_,_,_,_),(au,_,_,_,aw,ay,az,_,_,_,bu,bw,_,_,_,_),bz,(cu,cw,_,_,cy,cz,_),du,dw,_))=>(a,b,c,d,e,f,g,h,i,j,k,l,m,n,o,p,q,r,s,t,u,w,y,z,au,aw,ay,az,bu,bw,bz,cu,cw,cy,cz,du,dw)
def ZEo:Zbs→StD Zgh:=fun (a,b,c,d,e,f,g,h,i,j,k,l,m,n,o,p,q,r,s,t,u,w,y,z,au,aw,ay,az,bu,bw,bz,cu,cw,cy,cz,du,dw)=>((a,b,(),(),(),(),(),c,()),((d,e,f,g,h,i,j,k,l,()),(m,n,o,p,q,r,()),(s,(),(),(),t,u,w,(),(),(),y,z,(),(),(),()),(au,(),(),(),aw,ay,az,(),(),(),bu,bw,(),(),(),()),bz,(cu,cw,(),(),cy,cz,()),du,dw,()))
def ZU6:StD Wi→Zds:=fun ((a,b,_,_,_,_,_,_),((c,d,e,f,g,h,i,j,k,_),(l,m,n,o,p,q,_),(r,_,_,_,s,t,u,_,_,_,w,y,_,_,_,_),(z,_,_,_,au,aw,ay,_,_,_,az,bu,_,_,_,_),bw,(bz,cu,_,_,cw,cy,_),cz,du,_))=>(a,b,c,d,e,f,g,h,i,j,k,l,m,n,o,p,q,r,s,t,u,w,y,z,au,aw,ay,az,bu,bw,bz,cu,cw,cy,cz,du)
def ZiH:Zds→StD Wi:=fun (a,b,c,d,e,f,g,h,i,j,k,l,m,n,o,p,q,r,s,t,u,w,y,z,au,aw,ay,az,bu,bw,bz,cu,cw,cy,cz,du)=>((a,b,(),(),(),(),(),()),((c,d,e,f,g,h,i,j,k,()),(l,m,n,o,p,q,()),(r,(),(),(),s,t,u,(),(),(),w,y,(),(),(),()),(z,(),(),(),au,aw,ay,(),(),(),az,bu,(),(),(),()),bw,(bz,cu,(),(),cw,cy,()),cz,du,()))
def Zgg:StS:=⟨[(0,.int .i64),(3,.sl tEn),(5,.ptr 0 0),(6,.ptr 1 0),(8,.ptr 2 0),(9,.ptr 3 0),(10,.ptr 4 0),(11,.int .i64)],[(0,.box [.int .i64,.int .i64,.int .i64,.int .i64,.int .i64,.int .i64,.int .i64,.int .i64,.int .i64]),(1,.box [.bool,.sl tI,.sl tI,.sl tI,.int .i64,.int .i64]),(2,.box [.bool,.nil,.nil,.nil,.int .i64,.int .i64,.bool,.nil,.nil,.nil,.int .i64,.int .i64,.nil,.nil,.nil]),(3,.box [.bool,.nil,.nil,.nil,.int .i64,.int .i64,.bool,.nil,.nil,.nil,.int .i64,.int .i64,.nil,.nil,.nil]),(4,.box [.bool,.sl tI,.row 5,.row 6,.int .i64,.int .i64]),(5,.row tI),(6,.row tI)],7⟩
def Wh:StS:=⟨[(0,.int .i64),(3,.sl tEn),(5,.ptr 0 0),(6,.ptr 1 0),(8,.ptr 2 0),(9,.ptr 3 0),(10,.ptr 4 0)],[(0,.box [.int .i64,.int .i64,.int .i64,.int .i64,.int .i64,.int .i64,.int .i64,.int .i64,.int .i64]),(1,.box [.bool,.sl tI,.sl tI,.sl tI,.int .i64,.int .i64]),(2,.box [.bool,.nil,.nil,.nil,.int .i64,.int .i64,.bool,.nil,.nil,.nil,.int .i64,.int .i64,.nil,.nil,.nil]),(3,.box [.bool,.nil,.nil,.nil,.int .i64,.int .i64,.bool,.nil,.nil,.nil,.int .i64,.int .i64,.nil,.nil,.nil]),(4,.box [.bool,.sl tI,.row 5,.row 6,.int .i64,.int .i64]),(5,.row tI),(6,.row tI)],7⟩
def ZCD:StD Zgg→Zbr:=fun ((a,b,_,_,_,_,_,c,_),((d,e,f,g,h,i,j,k,l,_),(m,n,o,p,q,r,_),(s,_,_,_,t,u,w,_,_,_,y,z,_,_,_,_),(au,_,_,_,aw,ay,az,_,_,_,bu,bw,_,_,_,_),(bz,cu,_,_,cw,cy,_),cz,du,_))=>(a,b,c,d,e,f,g,h,i,j,k,l,m,n,o,p,q,r,s,t,u,w,y,z,au,aw,ay,az,bu,bw,bz,cu,cw,cy,cz,du)
def ZEn:Zbr→StD Zgg:=fun (a,b,c,d,e,f,g,h,i,j,k,l,m,n,o,p,q,r,s,t,u,w,y,z,au,aw,ay,az,bu,bw,bz,cu,cw,cy,cz,du)=>((a,b,(),(),(),(),(),c,()),((d,e,f,g,h,i,j,k,l,()),(m,n,o,p,q,r,()),(s,(),(),(),t,u,w,(),(),(),y,z,(),(),(),()),(au,(),(),(),aw,ay,az,(),(),(),bu,bw,(),(),(),()),(bz,cu,(),(),cw,cy,()),cz,du,()))
def ZU5:StD Wh→Zdr:=fun ((a,b,_,_,_,_,_,_),((c,d,e,f,g,h,i,j,k,_),(l,m,n,o,p,q,_),(r,_,_,_,s,t,u,_,_,_,w,y,_,_,_,_),(z,_,_,_,au,aw,ay,_,_,_,az,bu,_,_,_,_),(bw,bz,_,_,cu,cw,_),cy,cz,_))=>(a,b,c,d,e,f,g,h,i,j,k,l,m,n,o,p,q,r,s,t,u,w,y,z,au,aw,ay,az,bu,bw,bz,cu,cw,cy,cz)
def ZiG:Zdr→StD Wh:=fun (a,b,c,d,e,f,g,h,i,j,k,l,m,n,o,p,q,r,s,t,u,w,y,z,au,aw,ay,az,bu,bw,bz,cu,cw,cy,cz)=>((a,b,(),(),(),(),(),()),((c,d,e,f,g,h,i,j,k,()),(l,m,n,o,p,q,()),(r,(),(),(),s,t,u,(),(),(),w,y,(),(),(),()),(z,(),(),(),au,aw,ay,(),(),(),az,bu,(),(),(),()),(bw,bz,(),(),cu,cw,()),cy,cz,()))
def Zvt:Nat→Tm→Prog (Nat×Tm):=(varP 0 (fun T h=>(rdS Zgg T h).map ZCD) ZfP (altE 2 Wh ZiG) (varP 0 (fun T h=>(rdS Zgh T h).map ZCE) ZfQ (altE 2 Wi ZiH) (fun _ _=>.fail)))
def Zm8:Lpc:=⟨88,0,108,(fun base T=>.norm base (ZtL 0) T (Zvt base)),by kernel_rfl,by kernel_rfl,(loopU Zo4 [] 40 1048576 8 (keep:=ZtL) (q:=Zvt) (by kernel_rfl) (Zv (s:=Zgg) (un:=ZEn) (by rfl) (fun _=>rfl) (Zn (s:=Wh) (un:=ZiG) (flat:=ZU5) (by rfl) (fun _=>rfl)) (step:=Zrd) (fun _=>by kernel_rfl) (fun _ _ e=>⟨_,e⟩) (Zm 2 Wh ZiG) (Zv (s:=Zgh) (un:=ZEo) (by rfl) (fun _=>rfl) (Zn (s:=Wi) (un:=ZiH) (flat:=ZU6) (by rfl) (fun _=>rfl)) (step:=Zre) (fun _=>by kernel_rfl) (fun _ _ e=>⟨_,e⟩) (Zm 2 Wi ZiH) (ZB.fail _ _))))⟩
abbrev ZZy:=cxU Zo4 [Zm8] 40 1048576
def Zgj:StS:=⟨[(0,.int .i64),(3,.sl tEn),(5,.ptr 0 0),(6,.ptr 1 0),(8,.ptr 2 0),(9,.ptr 3 0),(10,.ptr 5 0),(12,.int .i64)],[(0,.box [.int .i64,.int .i64,.int .i64,.int .i64,.int .i64,.int .i64,.int .i64,.int .i64,.int .i64]),(1,.box [.bool,.sl tI,.sl tI,.sl tI,.int .i64,.int .i64]),(2,.box [.bool,.nil,.nil,.nil,.int .i64,.int .i64,.bool,.nil,.nil,.nil,.int .i64,.int .i64,.nil,.nil,.nil]),(3,.box [.bool,.nil,.nil,.nil,.int .i64,.int .i64,.bool,.nil,.nil,.nil,.int .i64,.int .i64,.row 4,.nil,.nil]),(4,.row (.int .i64)),(5,.box [.bool,.sl tI,.row 6,.row 7,.int .i64,.int .i64]),(6,.row tI),(7,.row tI)],8⟩
def Wk:StS:=⟨[(5,.ptr 0 0),(6,.ptr 1 0),(8,.ptr 2 0),(9,.ptr 3 0),(10,.ptr 5 0)],[(0,.box [.int .i64,.int .i64,.int .i64,.int .i64,.int .i64,.int .i64,.int .i64,.int .i64,.int .i64]),(1,.box [.bool,.sl tI,.sl tI,.sl tI,.int .i64,.int .i64]),(2,.box [.bool,.nil,.nil,.nil,.int .i64,.int .i64,.bool,.nil,.nil,.nil,.int .i64,.int .i64,.nil,.nil,.nil]),(3,.box [.bool,.nil,.nil,.nil,.int .i64,.int .i64,.bool,.nil,.nil,.nil,.int .i64,.int .i64,.row 4,.nil,.nil]),(4,.row (.int .i64)),(5,.box [.bool,.sl tI,.row 6,.row 7,.int .i64,.int .i64]),(6,.row tI),(7,.row tI)],8⟩
def ZCG:StD Zgj→Zbu:=fun ((a,b,_,_,_,_,_,c,_),((d,e,f,g,h,i,j,k,l,_),(m,n,o,p,q,r,_),(s,_,_,_,t,u,w,_,_,_,y,z,_,_,_,_),(au,_,_,_,aw,ay,az,_,_,_,bu,bw,_,_,_,_),bz,(cu,cw,_,_,cy,cz,_),du,dw,_))=>(a,b,c,d,e,f,g,h,i,j,k,l,m,n,o,p,q,r,s,t,u,w,y,z,au,aw,ay,az,bu,bw,bz,cu,cw,cy,cz,du,dw)
def ZEq:Zbu→StD Zgj:=fun (a,b,c,d,e,f,g,h,i,j,k,l,m,n,o,p,q,r,s,t,u,w,y,z,au,aw,ay,az,bu,bw,bz,cu,cw,cy,cz,du,dw)=>((a,b,(),(),(),(),(),c,()),((d,e,f,g,h,i,j,k,l,()),(m,n,o,p,q,r,()),(s,(),(),(),t,u,w,(),(),(),y,z,(),(),(),()),(au,(),(),(),aw,ay,az,(),(),(),bu,bw,(),(),(),()),bz,(cu,cw,(),(),cy,cz,()),du,dw,()))
def ZU8:StD Wk→Zdu:=fun ((_,_,_,_,_,_),((a,b,c,d,e,f,g,h,i,_),(j,k,l,m,n,o,_),(p,_,_,_,q,r,s,_,_,_,t,u,_,_,_,_),(w,_,_,_,y,z,au,_,_,_,aw,ay,_,_,_,_),az,(bu,bw,_,_,bz,cu,_),cw,cy,_))=>(a,b,c,d,e,f,g,h,i,j,k,l,m,n,o,p,q,r,s,t,u,w,y,z,au,aw,ay,az,bu,bw,bz,cu,cw,cy)
def ZiJ:Zdu→StD Wk:=fun (a,b,c,d,e,f,g,h,i,j,k,l,m,n,o,p,q,r,s,t,u,w,y,z,au,aw,ay,az,bu,bw,bz,cu,cw,cy)=>(((),(),(),(),(),()),((a,b,c,d,e,f,g,h,i,()),(j,k,l,m,n,o,()),(p,(),(),(),q,r,s,(),(),(),t,u,(),(),(),()),(w,(),(),(),y,z,au,(),(),(),aw,ay,(),(),(),()),az,(bu,bw,(),(),bz,cu,()),cw,cy,()))
def Zgi:StS:=⟨[(0,.int .i64),(3,.sl tEn),(5,.ptr 0 0),(6,.ptr 1 0),(8,.ptr 2 0),(9,.ptr 3 0),(10,.ptr 4 0),(12,.int .i64)],[(0,.box [.int .i64,.int .i64,.int .i64,.int .i64,.int .i64,.int .i64,.int .i64,.int .i64,.int .i64]),(1,.box [.bool,.sl tI,.sl tI,.sl tI,.int .i64,.int .i64]),(2,.box [.bool,.nil,.nil,.nil,.int .i64,.int .i64,.bool,.nil,.nil,.nil,.int .i64,.int .i64,.nil,.nil,.nil]),(3,.box [.bool,.nil,.nil,.nil,.int .i64,.int .i64,.bool,.nil,.nil,.nil,.int .i64,.int .i64,.nil,.nil,.nil]),(4,.box [.bool,.sl tI,.row 5,.row 6,.int .i64,.int .i64]),(5,.row tI),(6,.row tI)],7⟩
def Wj:StS:=⟨[(5,.ptr 0 0),(6,.ptr 1 0),(8,.ptr 2 0),(9,.ptr 3 0),(10,.ptr 4 0)],[(0,.box [.int .i64,.int .i64,.int .i64,.int .i64,.int .i64,.int .i64,.int .i64,.int .i64,.int .i64]),(1,.box [.bool,.sl tI,.sl tI,.sl tI,.int .i64,.int .i64]),(2,.box [.bool,.nil,.nil,.nil,.int .i64,.int .i64,.bool,.nil,.nil,.nil,.int .i64,.int .i64,.nil,.nil,.nil]),(3,.box [.bool,.nil,.nil,.nil,.int .i64,.int .i64,.bool,.nil,.nil,.nil,.int .i64,.int .i64,.nil,.nil,.nil]),(4,.box [.bool,.sl tI,.row 5,.row 6,.int .i64,.int .i64]),(5,.row tI),(6,.row tI)],7⟩
def ZCF:StD Zgi→Zbt:=fun ((a,b,_,_,_,_,_,c,_),((d,e,f,g,h,i,j,k,l,_),(m,n,o,p,q,r,_),(s,_,_,_,t,u,w,_,_,_,y,z,_,_,_,_),(au,_,_,_,aw,ay,az,_,_,_,bu,bw,_,_,_,_),(bz,cu,_,_,cw,cy,_),cz,du,_))=>(a,b,c,d,e,f,g,h,i,j,k,l,m,n,o,p,q,r,s,t,u,w,y,z,au,aw,ay,az,bu,bw,bz,cu,cw,cy,cz,du)
def ZEp:Zbt→StD Zgi:=fun (a,b,c,d,e,f,g,h,i,j,k,l,m,n,o,p,q,r,s,t,u,w,y,z,au,aw,ay,az,bu,bw,bz,cu,cw,cy,cz,du)=>((a,b,(),(),(),(),(),c,()),((d,e,f,g,h,i,j,k,l,()),(m,n,o,p,q,r,()),(s,(),(),(),t,u,w,(),(),(),y,z,(),(),(),()),(au,(),(),(),aw,ay,az,(),(),(),bu,bw,(),(),(),()),(bz,cu,(),(),cw,cy,()),cz,du,()))
def ZU7:StD Wj→Zdt:=fun ((_,_,_,_,_,_),((a,b,c,d,e,f,g,h,i,_),(j,k,l,m,n,o,_),(p,_,_,_,q,r,s,_,_,_,t,u,_,_,_,_),(w,_,_,_,y,z,au,_,_,_,aw,ay,_,_,_,_),(az,bu,_,_,bw,bz,_),cu,cw,_))=>(a,b,c,d,e,f,g,h,i,j,k,l,m,n,o,p,q,r,s,t,u,w,y,z,au,aw,ay,az,bu,bw,bz,cu,cw)
def ZiI:Zdt→StD Wj:=fun (a,b,c,d,e,f,g,h,i,j,k,l,m,n,o,p,q,r,s,t,u,w,y,z,au,aw,ay,az,bu,bw,bz,cu,cw)=>(((),(),(),(),(),()),((a,b,c,d,e,f,g,h,i,()),(j,k,l,m,n,o,()),(p,(),(),(),q,r,s,(),(),(),t,u,(),(),(),()),(w,(),(),(),y,z,au,(),(),(),aw,ay,(),(),(),()),(az,bu,(),(),bw,bz,()),cu,cw,()))
def Zvu:Nat→Tm→Prog (Nat×Tm):=(varP 0 (fun T h=>(rdS Zgi T h).map ZCF) ZfR (altE 4 Wj ZiI) (varP 0 (fun T h=>(rdS Zgj T h).map ZCG) ZfS (altE 4 Wk ZiJ) (fun _ _=>.fail)))
def ZHV:Lpc:=⟨88,2,108,(fun base T=>.norm base (ZtM 0) T (Zvu base)),by kernel_rfl,by kernel_rfl,(loopU Zo4 [Zm8] 40 1048576 8 (keep:=ZtM) (q:=Zvu) (by kernel_rfl) (Zv (s:=Zgi) (un:=ZEp) (by rfl) (fun _=>rfl) (Zn (s:=Wj) (un:=ZiI) (flat:=ZU7) (by rfl) (fun _=>rfl)) (step:=Zrf) (fun _=>by kernel_rfl) (fun _ _ e=>⟨_,e⟩) (Zm 4 Wj ZiI) (Zv (s:=Zgj) (un:=ZEq) (by rfl) (fun _=>rfl) (Zn (s:=Wk) (un:=ZiJ) (flat:=ZU8) (by rfl) (fun _=>rfl)) (step:=Zrg) (fun _=>by kernel_rfl) (fun _ _ e=>⟨_,e⟩) (Zm 4 Wk ZiJ) (ZB.fail _ _))))⟩
def ZAt:=conP true ZNQ (.dat tO) ZmJ
theorem ZOL:Zf Tryz.prog 88 ZAt:=Ze (calU Zo4 [Zm8,ZHV] 40 1048576 8 88) true (by rfl) (by rfl) (fun x r e=>(Zk _ _ _ _ _ _ _).trans ((show _=ZmJ x by kernel_rfl).trans e)) (.inl rfl)
def ZRW:List Sh:=[.dat (.int .i64)]
def ZVZ:List Con:=[]
def ZYg (a0:Int):Option I:=some (a0,a0)
def ZLW (x:Int×Unit):Option I:=ZYg x.1
def ZmP:=conP true ZRW (.dat tI) ZLW
theorem Zq2:Zf Tryz.prog 20 ZmP:=Ze (calU ZVZ [] 40 1048576 8 20) true (by rfl) (by rfl) (fun x r e=>(Zk _ _ _ _ _ _ _).trans ((show _=ZLW x by kernel_rfl).trans e)) (.inl rfl)
def ZG7:List Sh:=[]
def ZKP:List Con:=[]
def ZMq:Option I:=some (-2147483648,2147483647)
theorem ZTl:evGX (cxU ZKP [] 40 1048576) keeps 8 84 ZG7 (.dat tI) (():Unit)=ZMq:=by kernel_rfl
def ZXY (x:Unit):Option I:=ZMq
def ZHb:=conP true ZG7 (.dat tI) ZXY
theorem ZTE:Zf Tryz.prog 84 ZHb:=Ze (calU ZKP [] 40 1048576 8 84) true (by rfl) (by rfl) (fun x r e=>(Zk _ _ _ _ _ _ _).trans ((ZTl ).trans e)) (.inl rfl)
def ZRR:List Sh:=[.dat tA,.dat tE]
def ZVU:List Con:=[⟨116,ZKj,ZVO⟩,⟨47,Qs,QP⟩,⟨83,ZnA,ZsS⟩]
def ZG9:=conP true ZRR (.dat tO) Zp1
theorem ZTC:Zf Tryz.prog 85 ZG9:=Ze (calU ZVU [] 40 1048576 8 85) true (by rfl) (by rfl) (fun x r e=>(Zk _ _ _ _ _ _ _).trans ((show _=Zp1 x by kernel_rfl).trans e)) (.inl rfl)
def ZK4:List Sh:=[.dat tA,.dat tE]
def ZNc:List Con:=[⟨119,Zqg,ZxR⟩,⟨122,ZwO,ZLQ⟩]
def ZwN:=conP true ZK4 (.dat tO) Zjj
theorem ZLP:Zf Tryz.prog 89 ZwN:=Ze (calU ZNc [] 40 1048576 8 89) true (by rfl) (by rfl) (fun x r e=>(Zk _ _ _ _ _ _ _).trans ((show _=Zjj x by kernel_rfl).trans e)) (.inl rfl)
def ZNR:List Sh:=[.dat tA,.dat tE,.dat (.int .i64)]
def ZRa:List Con:=[⟨123,ZyM,ZM8⟩,⟨118,Zlk,Zo2⟩,⟨47,Qs,QP⟩,⟨83,ZnA,ZsS⟩]
def ZAu:=conP true ZNR (.dat tE) ZcA
theorem ZOM:Zf Tryz.prog 90 ZAu:=Ze (calU ZRa [] 40 1048576 8 90) true (by rfl) (by rfl) (fun x r e=>(Zk _ _ _ _ _ _ _).trans ((show _=ZcA x by kernel_rfl).trans e)) (.inl rfl)
def ZRS:List Sh:=[.dat (.int .i64)]
def ZVV:List Con:=[]
def ZHa:=conP true ZRS (.dat (.int .i64)) Zny
theorem ZTD:Zf Tryz.prog 91 ZHa:=Ze (calU ZVV [] 40 1048576 8 91) true (by rfl) (by rfl) (fun x r e=>(Zk _ _ _ _ _ _ _).trans ((show _=Zny x by kernel_rfl).trans e)) (.inl rfl)
def ZRQ:List Sh:=[.dat tU,.dat (.int .i64),.dat (.int .i64),.dat tE,.dat (.sl tEn)]
def ZVT:List Con:=[⟨20,ZmP,Zq2⟩,⟨83,ZnA,ZsS⟩,⟨84,ZHb,ZTE⟩,⟨85,ZG9,ZTC⟩,⟨86,ZAs,ZOK⟩,⟨88,ZAt,ZOL⟩,⟨89,ZwN,ZLP⟩,⟨90,ZAu,ZOM⟩,⟨91,ZHa,ZTD⟩,⟨66,Zqf,ZxP⟩,⟨118,Zlk,Zo2⟩,⟨47,Qs,QP⟩,⟨19,Kn,YD⟩]
def ZwM:=conP true ZRQ (.dat tO) Zce
theorem ZIv:Zf Tryz.prog 56 ZwM:=Ze (calU ZVT [] 40 1048576 8 56) true (by rfl) (by rfl) (fun x r e=>(Zk _ _ _ _ _ _ _).trans ((show _=Zce x by kernel_rfl).trans e)) (.inl rfl)
def ZQt:List Sh:=[.dat (.sl tI),.dat (.int .i64)]
def ZTX:List Con:=[⟨95,Vk,Za3⟩]
def ZoV:=conP true ZQt (.dat tI) YB
theorem ZuQ:Zf Tryz.prog 94 ZoV:=Ze (calU ZTX [] 40 1048576 8 94) true (by rfl) (by rfl) (fun x r e=>(Zk _ _ _ _ _ _ _).trans ((show _=YB x by kernel_rfl).trans e)) (.inl rfl)
def ZNL:List Sh:=[.dat (.sl tI),.dat (.sl tI)]
def ZtI:Nat→List Nat:=fun c=>bif c.beq 0 then [0,1,5] else [4]
def ZFe:List Con:=[⟨94,ZoV,ZuQ⟩,⟨66,Zqf,ZxP⟩]
def Zgd:StS:=⟨[(0,.sl tI),(1,.sl tI),(5,.int .i64)],[],0⟩
def Wb:StS:=⟨[(4,.undef)],[],0⟩
def Wc:StS:=⟨[(4,.bool)],[],0⟩
abbrev Hu:=((List I)×(List I)×Int)
def ZCA:StD Zgd→Hu:=fun ((a,b,c,_),_)=>(a,b,c)
def ZEk:Hu→StD Zgd:=fun (a,b,c)=>((a,b,c,()),())
abbrev Jq:=Unit
def ZUZ (d:StD Wb):Jq:=()
def ZiA (x:Jq):StD Wb:=(((),()),())
abbrev Jr:=Bool
def ZU0 (d:StD Wc):Jr:=(d.1.1)
def ZiB (x:Jr):StD Wc:=((x,()),())
def W9 (s0 s1:List I) (s5:Int):Option (((List I)×(List I)×Int)⊕(Unit⊕Bool)):=bif decide (s5<(s0.length:Int)) then bif decide (0≤s5) then Za s0[s5.toNat]? none fun d5=>Za (YB (s1,s5,())) none fun d6=>Za (JX (d5,d6,())) none fun d7=>bif !d7 then some (.inr (.inr false)) else some (.inl (s0,s1,IntKind.i64.wrap (s5+1))) else none else some (.inr (.inl PUnit.unit))
def Zra:Hu→Option (Hu⊕(Jq⊕Jr)):=fun (a,b,c)=>W9 a b c
def ZfM (x:Hu):Option (Jq⊕Jr):=Zh Zra Zl x
def Zvq:Nat→Tm→Prog (Nat×Tm):=(varP 0 (fun T h=>(rdS Zgd T h).map ZCA) ZfM (fun y=>.alt y (altE 2 Wb ZiA) (altE 1 Wc ZiB)) (fun _ _=>.fail))
def ZHS:Lpc:=⟨59,0,21,(fun base T=>.norm base (ZtI 0) T (Zvq base)),by kernel_rfl,by kernel_rfl,(loopU ZFe [] 40 1048576 8 (keep:=ZtI) (q:=Zvq) (by kernel_rfl) (Zv (s:=Zgd) (un:=ZEk) (by rfl) (fun _=>rfl) (ZW (Zn (s:=Wb) (un:=ZiA) (flat:=ZUZ) (by rfl) (fun _=>rfl)) (Zn (s:=Wc) (un:=ZiB) (flat:=ZU0) (by rfl) (fun _=>rfl))) (step:=Zra) (fun _=>by kernel_rfl) (fun _ _ e=>⟨_,e⟩) (ZV (Zm 2 Wb ZiA) (Zm 1 Wc ZiB)) (ZB.fail _ _)))⟩
def ZmY (a0 a1:List I):Option Bool:=Za (ZfM (a0,a1,0)) none fun d4=>Sum.elim (fun e5=>some true) (fun e5=>some e5) d4
def Zfn (x:((List I)×((List I)×Unit))):Option Bool:=ZmY x.1 x.2.1
def ZAq:=conP true ZNL (.dat .bool) Zfn
theorem ZOI:Zf Tryz.prog 59 ZAq:=Ze (calU ZFe [ZHS] 40 1048576 8 59) true (by rfl) (by rfl) (fun x r e=>(Zk _ _ _ _ _ _ _).trans ((show _=Zfn x by kernel_rfl).trans e)) (.inl rfl)
def WS (s1 s0:List I) (i:Nat)  (d:I):Option (Unit⊕(Jq⊕Jr)):=
 Za (YB (s1,(i:Int),())) (none) fun d6=>
  Za (JX (d,d6,())) (none) fun d7=>
  bif !d7 then
  some (.inr (.inr false))
 else some (.inl ())
def Zqn (s1 s0:List I):Option (Jq⊕Jr):=
 some (.inl PUnit.unit)
abbrev ZDR (s1 s0:List I) (i:Nat) (s:Unit):Hu:=(s0,s1,(i:Int))
def ZeK (s1 s0:List I) (s:Unit):Option (Jq⊕Jr):=Zp (fun i s d=>WS s1 s0 i  d) (fun s=>Zqn s1 s0 ) 0 s0 s
theorem ZqU (s1 s0:List I) (s:Unit) (hl:s0.length<9223372036854775807):ZfM (s0,s1,0)=ZeK s1 s0 s:=by
 unfold ZfM ZeK
 refine Zs s0 (ZDR s1 s0) _ _ ?_ ?_ s (by unfold Zl;omega)
 ·intro i s d hi hd
  have e1:decide ((i:Int)<(s0.length:Int))=true:=dT0 (by omega)
  have e2:decide (0≤(i:Int))=true:=dT0 (by omega)
  have e3:Int.toNat (i:Int)=i:=tN0 i
  have e4:=Zq hi (Nat.le_of_lt hl)
  show W9 (s0) (s1) ((i:Int))=upd _ (WS s1 s0 i  d)
  unfold W9 WS
  simp only [e1,e2,e3,e4,hd,cond_true,cond_false,Zb,ZC,ZF,ZD,ZI,ZJ,ZE]
 ·intro s
  have e1:decide ((s0.length:Int)<(s0.length:Int))=false:=dF0 (by omega)
  show W9 (s0) (s1) ((s0.length:Int))=_
  unfold W9 Zqn
  rw [e1]
  rfl
def ZQs:List Sh:=[.dat tE,.dat tE]
def ZTW:List Con:=[⟨59,ZAq,ZOI⟩]
def ZoB (a0 a1:E):Option Bool:=bif !a0.1 then some true else bif a1.1 then Za (Zfn (a0.2.1,a1.2.1,())) none fun d3=>bif d3 then Za (Zfn (a0.2.2.1,a1.2.2.1,())) none fun d4=>bif d4 then Za (Zfn (a0.2.2.2.1,a1.2.2.2.1,())) none fun d5=>bif d5 then bif IntKind.i64.wrap (↑(BitVec.ofInt IntKind.i64.bits a1.2.2.2.2.1 &&& ~~~BitVec.ofInt IntKind.i64.bits a0.2.2.2.2.1).toNat:Int)==0 then some (IntKind.i64.wrap (↑(BitVec.ofInt IntKind.i64.bits a0.2.2.2.2.2 &&& ~~~BitVec.ofInt IntKind.i64.bits a1.2.2.2.2.2).toNat:Int)==0) else some false else some false else some false else some false else some false
def YA (x:E×(E×Unit)):Option Bool:=ZoB x.1 x.2.1
def Zuz:=conP true ZQs (.dat .bool) YA
theorem ZE6:Zf Tryz.prog 29 Zuz:=Ze (calU ZTW [] 40 1048576 8 29) true (by rfl) (by rfl) (fun x r e=>(Zk _ _ _ _ _ _ _).trans ((show _=YA x by kernel_rfl).trans e)) (.inl rfl)
theorem ZLu (a:List I):leR a a:=⟨rfl,fun i x y hx hy=>by rw [hx] at hy;cases hy;exact ZdP x⟩
theorem ZIP {a b:Int} (ha:okB a) (hb:okB b) (s:subB a b):(IntKind.i64.wrap ((BitVec.ofInt IntKind.i64.bits a &&& ~~~BitVec.ofInt IntKind.i64.bits b).toNat:Int)==0)=true:=by
 unfold okB at *
 obtain ⟨r,h1,h2,h3⟩:=ZKY (a:=a.toNat) (b:=b.toNat) (by omega) (by omega)
 rw [show ((a.toNat:Nat):Int)=a by omega,show ((b.toNat:Nat):Int)=b by omega] at h1
 rw [h1]
 have:r=0:=Nat.eq_of_testBit_eq fun i=>by
  rw [h3,Nat.zero_testBit]
  cases q:a.toNat.testBit i
  ·rfl
  ·rw [s i q];rfl
 subst this
 rfl
def upF (f:I→I→I):Prop:=∀ u v,isB u=true→isB v=true→leqB u (f u v)=true∧leqB v (f u v)=true
theorem Zns:upF Zg:=fun u v _ _=>⟨ZHI u v,ZXa u v⟩
theorem ZCf (st:List Int):upF (widF st):=fun u v hu hv=>⟨(ZEG hu hv st).1,(ZEG hu hv st).2.1⟩
section
open Go.Proofs
variable {u:U} {t:Int} {a b:E}
theorem Z13 {a b:E} (ha:a.1=true) (hb:b.1=true) (h:sameE a b=true):a=b:=by
 unfold sameE at h
 rw [ha,hb] at h
 simp only [Bool.and_true,cond_true,Bool.and_eq_true,decide_eq_true_eq,beq_iff_eq] at h
 obtain ⟨on,V,G,A,must,may⟩:=a
 obtain ⟨on',V',G',A',must',may'⟩:=b
 cases ha;cases hb
 obtain ⟨rfl,rfl,rfl,rfl,rfl⟩:=h
 rfl
end
def ZL0:List Sh:=[.dat tU,.dat (.int .i64)]
def ZlU:Nat→List Nat:=fun c=>bif c.beq 0 then [1,2,4,5,6] else [2,4,5]
def ZlV:Nat→List Nat:=fun c=>bif c.beq 0 then [2,4,5,7] else [2,4,5]
def ZlW:Nat→List Nat:=fun c=>bif c.beq 0 then [2,4,5,8] else [4,5]
def Zfj:List Con:=[⟨20,ZmP,Zq2⟩]
def ZeP:StS:=⟨[(1,.int .i64),(2,.ptr 0 0),(4,.ptr 1 0),(5,.ptr 2 0),(6,.int .i64)],[(0,.box [.sl (.int .i64),.sl (.int .i64),.int .i64,.sl tC]),(1,.box [.bool,.nil,.nil,.nil,.int .i64,.int .i64]),(2,.box [.bool,.row 3,.nil,.nil,.int .i64,.int .i64]),(3,.row tI)],4⟩
def H8:StS:=⟨[(2,.ptr 0 0),(4,.ptr 1 0),(5,.ptr 2 0)],[(0,.box [.sl (.int .i64),.sl (.int .i64),.int .i64,.sl tC]),(1,.box [.bool,.nil,.nil,.nil,.int .i64,.int .i64]),(2,.box [.bool,.row 3,.nil,.nil,.int .i64,.int .i64]),(3,.row tI)],4⟩
def ZAF:StD ZeP→YO:=fun ((a,_,_,_,b,_),((c,d,e,f,_),(g,_,_,_,h,i,_),(j,_,_,_,k,l,_),m,_))=>(a,b,c,d,e,f,g,h,i,j,k,l,m)
def ZB6:YO→StD ZeP:=fun (a,b,c,d,e,f,g,h,i,j,k,l,m)=>((a,(),(),(),b,()),((c,d,e,f,()),(g,(),(),(),h,i,()),(j,(),(),(),k,l,()),m,()))
def ZUo:StD H8→Zch:=fun ((_,_,_,_),((a,b,c,d,_),(e,_,_,_,f,g,_),(h,_,_,_,i,j,_),k,_))=>(a,b,c,d,e,f,g,h,i,j,k)
def ZgP:Zch→StD H8:=fun (a,b,c,d,e,f,g,h,i,j,k)=>(((),(),(),()),((a,b,c,d,()),(e,(),(),(),f,g,()),(h,(),(),(),i,j,()),k,()))
def Zt5:Nat→Tm→Prog (Nat×Tm):=(varP 0 (fun T h=>(rdS ZeP T h).map ZAF) Zec (altE 2 H8 ZgP) (fun _ _=>.fail))
def ZbB:Lpc:=⟨55,0,68,(ownP [(2,1,tI)] [] (ZlU 0) (fun base T=>.norm base (ZlU 0) T (Zt5 base))),by kernel_rfl,by kernel_rfl,(Ja (loopU Zfj [] 40 1048576 8 (keep:=ZlU) (q:=Zt5) (by kernel_rfl) (Zv (s:=ZeP) (un:=ZB6) (by rfl) (fun _=>rfl) (Zn (s:=H8) (un:=ZgP) (flat:=ZUo) (by rfl) (fun _=>rfl)) (step:=ZpM) (fun _=>by kernel_rfl) (fun _ _ e=>⟨_,e⟩) (Zm 2 H8 ZgP) (ZB.fail _ _))))⟩
abbrev ZYY:=cxU Zfj [ZbB] 40 1048576
def ZeQ:StS:=⟨[(2,.ptr 0 0),(4,.ptr 1 0),(5,.ptr 2 0),(7,.int .i64)],[(0,.box [.sl (.int .i64),.sl (.int .i64),.int .i64,.sl tC]),(1,.box [.bool,.nil,.nil,.nil,.int .i64,.int .i64]),(2,.box [.bool,.row 3,.row 4,.nil,.int .i64,.int .i64]),(3,.row tI),(4,.row tI)],5⟩
def H9:StS:=⟨[(2,.ptr 0 0),(4,.ptr 1 0),(5,.ptr 2 0)],[(0,.box [.sl (.int .i64),.sl (.int .i64),.int .i64,.sl tC]),(1,.box [.bool,.nil,.nil,.nil,.int .i64,.int .i64]),(2,.box [.bool,.row 3,.row 4,.nil,.int .i64,.int .i64]),(3,.row tI),(4,.row tI)],5⟩
def ZAG:StD ZeQ→YP:=fun ((_,_,_,a,_),((b,c,d,e,_),(f,_,_,_,g,h,_),(i,_,_,_,j,k,_),l,m,_))=>(a,b,c,d,e,f,g,h,i,j,k,l,m)
def ZB7:YP→StD ZeQ:=fun (a,b,c,d,e,f,g,h,i,j,k,l,m)=>(((),(),(),a,()),((b,c,d,e,()),(f,(),(),(),g,h,()),(i,(),(),(),j,k,()),l,m,()))
def ZUp:StD H9→QZ:=fun ((_,_,_,_),((a,b,c,d,_),(e,_,_,_,f,g,_),(h,_,_,_,i,j,_),k,l,_))=>(a,b,c,d,e,f,g,h,i,j,k,l)
def ZgQ:QZ→StD H9:=fun (a,b,c,d,e,f,g,h,i,j,k,l)=>(((),(),(),()),((a,b,c,d,()),(e,(),(),(),f,g,()),(h,(),(),(),i,j,()),k,l,()))
def Zt6:Nat→Tm→Prog (Nat×Tm):=(varP 0 (fun T h=>(rdS ZeQ T h).map ZAG) Zed (altE 4 H9 ZgQ) (fun _ _=>.fail))
def ZlX:Lpc:=⟨55,2,68,(ownP [(2,2,tI)] [] (ZlV 0) (fun base T=>.norm base (ZlV 0) T (Zt6 base))),by kernel_rfl,by kernel_rfl,(Ja (loopU Zfj [ZbB] 40 1048576 8 (keep:=ZlV) (q:=Zt6) (by kernel_rfl) (Zv (s:=ZeQ) (un:=ZB7) (by rfl) (fun _=>rfl) (Zn (s:=H9) (un:=ZgQ) (flat:=ZUp) (by rfl) (fun _=>rfl)) (step:=ZpN) (fun _=>by kernel_rfl) (fun _ _ e=>⟨_,e⟩) (Zm 4 H9 ZgQ) (ZB.fail _ _))))⟩
abbrev ZYZ:=cxU Zfj [ZbB,ZlX] 40 1048576
def ZeR:StS:=⟨[(2,.ptr 0 0),(4,.ptr 1 0),(5,.ptr 2 0),(8,.int .i64)],[(0,.box [.sl (.int .i64),.sl (.int .i64),.int .i64,.sl tC]),(1,.box [.bool,.nil,.nil,.nil,.int .i64,.int .i64]),(2,.box [.bool,.row 3,.row 4,.row 5,.int .i64,.int .i64]),(3,.row tI),(4,.row tI),(5,.row tI)],6⟩
def Va:StS:=⟨[(4,.ptr 0 0),(5,.ptr 1 0)],[(0,.box [.bool,.nil,.nil,.nil,.int .i64,.int .i64]),(1,.box [.bool,.row 2,.row 3,.row 4,.int .i64,.int .i64]),(2,.row tI),(3,.row tI),(4,.row tI)],5⟩
def ZAH:StD ZeR→YQ:=fun ((_,_,_,a,_),((b,c,d,e,_),(f,_,_,_,g,h,_),(i,_,_,_,j,k,_),l,m,n,_))=>(a,b,c,d,e,f,g,h,i,j,k,l,m,n)
def ZB8:YQ→StD ZeR:=fun (a,b,c,d,e,f,g,h,i,j,k,l,m,n)=>(((),(),(),a,()),((b,c,d,e,()),(f,(),(),(),g,h,()),(i,(),(),(),j,k,()),l,m,n,()))
def ZUq:StD Va→Q0:=fun ((_,_,_),((a,_,_,_,b,c,_),(d,_,_,_,e,f,_),g,h,i,_))=>(a,b,c,d,e,f,g,h,i)
def ZgR:Q0→StD Va:=fun (a,b,c,d,e,f,g,h,i)=>(((),(),()),((a,(),(),(),b,c,()),(d,(),(),(),e,f,()),g,h,i,()))
def Zt7:Nat→Tm→Prog (Nat×Tm):=(varP 0 (fun T h=>(rdS ZeR T h).map ZAH) Zee (altE 6 Va ZgR) (fun _ _=>.fail))
def ZF0:Lpc:=⟨55,4,68,(ownP [(2,3,tI)] [] (ZlW 0) (fun base T=>.norm base (ZlW 0) T (Zt7 base))),by kernel_rfl,by kernel_rfl,(Ja (loopU Zfj [ZbB,ZlX] 40 1048576 8 (keep:=ZlW) (q:=Zt7) (by kernel_rfl) (Zv (s:=ZeR) (un:=ZB8) (by rfl) (fun _=>rfl) (Zn (s:=Va) (un:=ZgR) (flat:=ZUq) (by rfl) (fun _=>rfl)) (step:=ZpO) (fun _=>by kernel_rfl) (fun _ _ e=>⟨_,e⟩) (Zm 6 Va ZgR) (ZB.fail _ _))))⟩
def Zqc:=conP true ZL0 (.dat tE) Zg0
theorem Zza:Zf Tryz.prog 55 Zqc:=Ze (calU Zfj [ZbB,ZlX,ZF0] 40 1048576 8 55) true (by rfl) (by rfl) (fun x r e=>(Zk _ _ _ _ _ _ _).trans ((show _=Zg0 x by kernel_rfl).trans e)) (.inl rfl)
def ZyE:List Sh:=[]
def ZBN:List Con:=[⟨24,Zig,ZlG⟩]
def ZoX:Option Bool:=Za (Ya (([],[],0,[(0,[(12,0,0,0,0,0,0,1,0),(14,0,0,0,0,0,0,1,0)])]),0,[],())) none fun d1=>bif d1.2.2.2.2.2 then bif d1.2.2.2.2.1==2 then bif (List.length d1.1:Int)==2 then Za d1.1[Int.toNat 1]? none fun d2=>some d2.1 else some false else some false else some false
theorem ZMS:evGX (cxU ZBN [] 40 1048576) keeps 8 26 ZyE (.dat .bool) (():Unit)=ZoX:=by kernel_rfl
def Z0 (x:Unit):Option Bool:=ZoX
def ZhC:=conP true ZyE (.dat .bool) Z0
theorem ZmC:Zf Tryz.prog 26 ZhC:=Ze (calU ZBN [] 40 1048576 8 26) true (by rfl) (by rfl) (fun x r e=>(Zk _ _ _ _ _ _ _).trans ((ZMS ).trans e)) (.inl rfl)
def u14:U:=([],[],0,[(0,[(12,0,0,0,0,0,0,1,0),(14,0,0,0,0,0,0,1,0)])])
theorem Z6T:unitOK u14:=by
 obtain ⟨b,h1,h2⟩:=Zg6 u14 0 [] ⟨by decide,by decide,by decide,fun c hc=>by
  rw [List.mem_singleton.1 hc];decide⟩ (by decide)
 have h3:ZoW u14 0 []=some true:=by kernel_rfl
 rw [h3] at h1
 exact (h2 (Option.some.inj h1).symm).hu
theorem ZAT:ZoX=some true:=by
 have h:=(ZnL (u:=u14) (t:=0) (l:=[]) (c:=(0,[(12,0,0,0,0,0,0,1,0),(14,0,0,0,0,0,0,1,0)])) Z6T (by decide) Za5 (by decide) rfl).1
 unfold ZoX
 show Za (Zki u14 0 []) none _=_
 rw [h]
 kernel_rfl
section
open Go.Proofs
theorem ZH1 {a b c:List I} (h:leR a b) (k:leR b c):leR a c:=by
 refine ⟨h.1.trans k.1,fun i x z hx hz=>?_⟩
 have hi:i<a.length:=(List.getElem?_eq_some_iff.1 hx).1
 have hy:b[i]? = some (b[i]'(by rw [← h.1];exact hi)):=List.getElem?_eq_getElem _
 exact KH (h.2 i x _ hx hy) (k.2 i _ z hy hz)
theorem ZNh {a b c:Int} (h:subB a b) (k:subB b c):subB a c:=fun i q=>k i (h i q)
theorem ZP3 (a:Int):subB a a:=fun i q=>q
theorem ZLt {x:E} (h:x.1=true):leE x x:=⟨h,ZLu _,ZLu _,ZLu _,ZP3 _,ZP3 _⟩
theorem ZPz {x y z:E} (h:leE x y) (k:leE y z):leE x z:=⟨k.on,ZH1 h.v k.v,ZH1 h.g k.g,ZH1 h.a k.a,ZNh k.must h.must,ZNh h.may k.may⟩
theorem Zxb (x:E):leO x x:=fun h=>ZLt h
theorem Zpx {x y z:E} (h:leO x y) (k:leO y z):leO x z:=fun q=>ZPz (h q) (k (h q).on)
theorem Zsd {x y:Int} (hx:okB x) (hy:okB y):andI x y=((x.toNat &&& y.toNat:Nat):Int):=by
 unfold okB at *
 have h:=ZCg (a:=x.toNat) (b:=y.toNat) (by omega) (by omega)
 rw [show ((x.toNat:Nat):Int)=x by omega,show ((y.toNat:Nat):Int)=y by omega] at h
 exact h
theorem ZI6 {x y:Int} (hx:okB x) (hy:okB y):orI x y=((x.toNat ||| y.toNat:Nat):Int):=by
 unfold okB at *
 have h:=ZTg (a:=x.toNat) (b:=y.toNat) (by omega) (by omega)
 rw [show ((x.toNat:Nat):Int)=x by omega,show ((y.toNat:Nat):Int)=y by omega] at h
 exact h
theorem Z5U {x y:Int} (hx:okB x) (hy:okB y):subB (andI x y) x:=fun i q=>by
 rw [Zsd hx hy,tN0,Nat.testBit_and,Bool.and_eq_true] at q
 exact q.1
theorem Z2n {x y:Int} (hx:okB x) (hy:okB y):subB (andI x y) y:=fun i q=>by
 rw [Zsd hx hy,tN0,Nat.testBit_and,Bool.and_eq_true] at q
 exact q.2
theorem Z6U {x y:Int} (hx:okB x) (hy:okB y):subB x (orI x y):=fun i q=>by
 rw [ZI6 hx hy,tN0,Nat.testBit_or,q,Bool.true_or]
theorem Z6V {x y:Int} (hx:okB x) (hy:okB y):subB y (orI x y):=fun i q=>by
 rw [ZI6 hx hy,tN0,Nat.testBit_or,q,Bool.or_true]
theorem ZUe {F:I→I→I} {a b:List I} {i:Nat} {z:I} (h:(zipI F a b)[i]? = some z):∃ x,a[i]? = some x∧z=F x (rowAt b i):=by
 unfold zipI at h
 rw [List.getElem?_mapIdx] at h
 cases e:a[i]? with
 | none=>rw [e] at h;cases h
 | some x=>rw [e] at h;exact ⟨x,rfl,(Option.some.inj h).symm⟩
theorem ZBm {b:List I} {i:Nat} {y:I} (h:b[i]? = some y):rowAt b i=y:=by unfold rowAt;rw [h];rfl
theorem ZOX {F:I→I→I} (hF:upF F) {a b:List I} (hl:a.length=b.length) (ha:∀ x∈a,isB x=true) (hb:∀ x∈b,isB x=true):leR a (zipI F a b):=by
 refine ⟨(Zww F a b).symm,fun i x z hx hz=>?_⟩
 obtain ⟨x',h1,rfl⟩:=ZUe hz
 rw [hx] at h1;cases h1
 have hi:i<b.length:=by rw [← hl];exact (List.getElem?_eq_some_iff.1 hx).1
 rw [ZBm (List.getElem?_eq_getElem hi)]
 exact (hF x b[i] (ha x (mG0 hx)) (hb _ (List.getElem_mem hi))).1
theorem ZOY {F:I→I→I} (hF:upF F) {a b:List I} (hl:a.length=b.length) (ha:∀ x∈a,isB x=true) (hb:∀ x∈b,isB x=true):leR b (zipI F a b):=by
 refine ⟨by rw [Zww,hl],fun i y z hy hz=>?_⟩
 obtain ⟨x,h1,rfl⟩:=ZUe hz
 rw [ZBm hy]
 exact (hF x y (ha x (mG0 h1)) (hb y (mG0 hy))).2
def upL (es es':List E):Prop:=∀ (i:Nat) (x:E),es[i]? = some x→∃ y,es'[i]? = some y∧leO x y
theorem ZEF (es:List E):upL es es:=fun i x h=>⟨x,h,Zxb x⟩
theorem Zzo {a b c:List E} (h:upL a b) (k:upL b c):upL a c:=fun i x hx=>by
 obtain ⟨y,hy,q⟩:=h i x hx
 obtain ⟨z,hz,w⟩:=k i y hy
 exact ⟨z,hz,Zpx q w⟩
theorem ZXD {a b:E} (ha:a.1=true) (h:sameE a b=true):a=b:=by
 cases hb:b.1
 ·unfold sameE at h
  rw [ha,hb] at h
  have h':(true==false)=true:=h
  exact absurd h' (by decide)
 ·exact Z13 ha hb h
section
variable {u:U} {t:Int} {l:List En} {st:List Int} {c:C} {a b:E}
theorem ZN6 (ha:envOK u t a) (hb:envOK u t b):a.2.1.length=b.2.1.length∧a.2.2.1.length=b.2.2.1.length∧a.2.2.2.1.length=b.2.2.2.1.length:=by
 obtain ⟨c,hc,h1⟩:=ha.c
 obtain ⟨c',hc',h2⟩:=hb.c
 rw [hc] at hc';cases hc'
 have:=ha.g
 have:=hb.g
 have:=ha.a
 have:=hb.a
 exact ⟨by omega,by omega,by omega⟩
theorem Z26 {F:I→I→I} (hF:upF F) (ha:envOK u t a) (hb:envOK u t b):leE a (mrg F a b):=by
 obtain ⟨l1,l2,l3⟩:=ZN6 ha hb
 exact ⟨rfl,ZOX hF l1 (fun x k=>(envV ha x k).1) fun x k=>(envV hb x k).1,ZOX hF l2 (fun x k=>(envG ha x k).1) fun x k=>(envG hb x k).1,ZOX hF l3 (fun x k=>(envA ha x k).1) fun x k=>(envA hb x k).1,Z5U ha.must hb.must,Z6U ha.may hb.may⟩
theorem Z27 {F:I→I→I} (hF:upF F) (ha:envOK u t a) (hb:envOK u t b):leE b (mrg F a b):=by
 obtain ⟨l1,l2,l3⟩:=ZN6 ha hb
 exact ⟨rfl,ZOY hF l1 (fun x k=>(envV ha x k).1) fun x k=>(envV hb x k).1,ZOY hF l2 (fun x k=>(envG ha x k).1) fun x k=>(envG hb x k).1,ZOY hF l3 (fun x k=>(envA ha x k).1) fun x k=>(envA hb x k).1,Z2n ha.must hb.must,Z6V ha.may hb.may⟩
theorem ZHJ {F:I→I→I} (hF:upF F) (ha1:a.1=true) (ha:envOK u t a) (hb:b.1=true→envOK u t b):leE a (eJoin F a b):=by
 unfold eJoin
 rw [ha1,cond_true]
 cases hb1:b.1
 ·exact ZLt ha1
 ·exact Z26 hF ha (hb hb1)
theorem ZHK {F:I→I→I} (hF:upF F) (ha:a.1=true→envOK u t a) (hb1:b.1=true) (hb:envOK u t b):leE b (eJoin F a b):=by
 unfold eJoin
 rw [hb1]
 cases ha1:a.1
 ·exact ZLt hb1
 ·exact Z27 hF (ha ha1) hb
theorem Z0b {fr to:Int} {old e:E} {n:Int} (ho:okE u t old) (he1:e.1=true) (he:envOK u t e):leE e (nxtV st fr to old e n)∧leO old (nxtV st fr to old e n):=by
 have k1:=ZlD (F:=Zg) (a:=old) he1
 have k2:=ZmQ Zxh ho.env (fun _=>he) k1
 have u1:=ZHK Zns ho.env he1 he
 have u2:leO old (eJoin Zg old e):=fun h=>ZHJ Zns h (ho.env h) fun _=>he
 unfold nxtV
 split
 ·exact ⟨ZPz u1 (ZHK (ZCf st) ho.env k1 k2),fun h=>ZHJ (ZCf st) h (ho.env h) fun _=>k2⟩
 ·exact ⟨u1,u2⟩
theorem ZMd {fr to:Int} {e:E} {es:List E} {ns:List Int} (hes:∀ x∈es,okE u t x) (he:e.1=true→envOK u t e) (h1:to.toNat<es.length) (hl:ns.length=es.length) (h:(comeV st fr to e es ns).1=false) :
  comeV st fr to e es ns=(false,es,ns)∧∃ y,es[to.toNat]? = some y∧leO e y:=by
 have g1:es[to.toNat]? = some es[to.toNat]:=List.getElem?_eq_getElem h1
 have g2:ns[to.toNat]? = some (ns[to.toNat]'(by omega)):=List.getElem?_eq_getElem _
 have ho:=hes _ (List.getElem_mem h1)
 generalize es[to.toNat]=old at g1 ho
 generalize ns[to.toNat]'(by omega)=n at g2
 unfold comeV at h ⊢
 cases he1:e.1
 ·exact ⟨by simp only [he1,g1,g2],old,g1,fun k=>by rw [he1] at k;cases k⟩
 ·simp only [he1,g1,g2] at h ⊢
  cases q:sameE (nxtV st fr to old e n) old
  ·rw [q] at h;cases h
  ·refine ⟨rfl,old,rfl,fun _=>?_⟩
   have hn:=Z0a (st:=st) (fr:=fr) (to:=to) (n:=n) ho he1 (he he1)
   have k:=(Z0b (st:=st) (fr:=fr) (to:=to) (n:=n) ho he1 (he he1)).1
   rw [ZXD hn.1 q] at k
   exact k
theorem ZWl {fr to:Int} {e:E} {es:List E} {ns:List Int} (hes:∀ x∈es,okE u t x) (he:e.1=true→envOK u t e):upL es (comeV st fr to e es ns).2.1:=by
 intro i x hx
 have keep:∃ y,es[i]? = some y∧leO x y:=⟨x,hx,Zxb x⟩
 unfold comeV
 split
 ·rename_i old n he1 g1 g2
  cases sameE (nxtV st fr to old e n) old
  ·simp only [cond_false]
   by_cases q:to.toNat=i
   ·subst q
    rw [g1] at hx;cases hx
    exact ⟨_,List.getElem?_set_self ((List.getElem?_eq_some_iff.1 g1).1),(Z0b (hes _ (mG0 g1)) he1 (he he1)).2⟩
   ·exact ⟨x,by rw [List.getElem?_set_ne q];exact hx,Zxb x⟩
  ·exact keep
 ·exact keep
def Vs (u:U) (t:Int) (l:List En) (es:List E) (i:Nat) (d:A):Prop:=
 ∃ x y,es[d.2.2.2.2.2.2.2.1.toNat]? = some x∧es[d.2.2.2.2.2.2.2.2.toNat]? = some y∧leO (outV u t i ((es[i]?).getD offE) l).1 x∧leO (outV u t i ((es[i]?).getD offE) l).2.1 y
theorem Z1K (hu:unitOK u) (ht:0≤t) (hl:tabOK l) (hn:l.length≤1000) (hc:u.2.2.2[t.toNat]? = some c) {s:St3} (v:Inv u t c.2.length s.2.1 s.2.2) {i:Nat} {d:A} (hd:c.2[i]? = some d) :
  Inv u t c.2.length (nodeV u t l st i s d).2.1 (nodeV u t l st i s d).2.2∧upL s.2.1 (nodeV u t l st i s d).2.1 ∧
  ((nodeV u t l st i s d).1=false→nodeV u t l st i s d=s∧s.1=false∧Vs u t l s.2.1 i d):=by
 obtain ⟨b,es,ns⟩:=s
 simp only at v
 have hi:=(List.getElem?_eq_some_iff.1 hd).1
 have ha:=(hu.ts c (mG0 hc)).a d (mG0 hd)
 have hie:i<es.length:=by rw [v.le];exact hi
 have ge:es[i]? = some es[i]:=List.getElem?_eq_getElem hie
 obtain ⟨_,_,o3,_⟩:=Znh hu ht hl hn hc (v.ok _ (List.getElem_mem hie)) hi
 have hx:=ha.nx
 have hy:=ha.el
 have ve:=v.le
 have vn:=v.ln
 have hN:nodeV u t l st i (b,es,ns) d=(b||(comeV st i d.2.2.2.2.2.2.2.1 (outV u t i es[i] l).1 es ns).1||(comeV st i d.2.2.2.2.2.2.2.2 (outV u t i es[i] l).2.1 (comeV st i d.2.2.2.2.2.2.2.1 (outV u t i es[i] l).1 es ns).2.1 (comeV st i d.2.2.2.2.2.2.2.1 (outV u t i es[i] l).1 es ns).2.2).1,
   (comeV st i d.2.2.2.2.2.2.2.2 (outV u t i es[i] l).2.1 (comeV st i d.2.2.2.2.2.2.2.1 (outV u t i es[i] l).1 es ns).2.1 (comeV st i d.2.2.2.2.2.2.2.1 (outV u t i es[i] l).1 es ns).2.2).2):=by
  unfold nodeV
  simp only [ge,Option.getD_some]
 rw [hN]
 have hA:Vs u t l es i d↔∃ x y,es[d.2.2.2.2.2.2.2.1.toNat]? = some x∧es[d.2.2.2.2.2.2.2.2.toNat]? = some y∧leO (outV u t i es[i] l).1 x∧leO (outV u t i es[i] l).2.1 y:=by
  unfold Vs
  simp only [ge,Option.getD_some]
 simp only [hA]
 clear hN hA
 generalize outV u t i es[i] l=o at o3
 have c1:=ZIW (st:=st) (fr:=(i:Int)) (to:=d.2.2.2.2.2.2.2.1) (e:=o.1) (ns:=ns) v.ok o3.nx
 have u1:=ZWl (st:=st) (fr:=(i:Int)) (to:=d.2.2.2.2.2.2.2.1) (e:=o.1) (ns:=ns) v.ok o3.nx
 have s1:=ZMd (st:=st) (fr:=(i:Int)) (to:=d.2.2.2.2.2.2.2.1) (e:=o.1) (ns:=ns) v.ok o3.nx (by omega) (by omega)
 generalize comeV st i d.2.2.2.2.2.2.2.1 o.1 es ns=r at c1 u1 s1
 have c2:=ZIW (st:=st) (fr:=(i:Int)) (to:=d.2.2.2.2.2.2.2.2) (e:=o.2.1) (ns:=r.2.2) c1.1 o3.el
 have u2:=ZWl (st:=st) (fr:=(i:Int)) (to:=d.2.2.2.2.2.2.2.2) (e:=o.2.1) (ns:=r.2.2) c1.1 o3.el
 have s2:=ZMd (st:=st) (fr:=(i:Int)) (to:=d.2.2.2.2.2.2.2.2) (e:=o.2.1) (ns:=r.2.2) c1.1 o3.el (by omega) (by omega)
 generalize comeV st i d.2.2.2.2.2.2.2.2 o.2.1 r.2.1 r.2.2=q at c2 u2 s2
 refine ⟨⟨c2.1,c2.2.1.trans (c1.2.1.trans v.le),c2.2.2.trans (c1.2.2.trans v.ln)⟩,Zzo u1 u2,fun h=>?_⟩
 simp only [Bool.or_eq_false_iff] at h
 obtain ⟨⟨rfl,h1⟩,h2⟩:=h
 obtain ⟨rfl,x,gx,lx⟩:=s1 h1
 obtain ⟨rfl,y,gy,ly⟩:=s2 h2
 exact ⟨rfl,rfl,x,y,gx,gy,lx,ly⟩
theorem ZPT (hu:unitOK u) (ht:0≤t) (hl:tabOK l) (hn:l.length≤1000) (hc:u.2.2.2[t.toNat]? = some c):∀ (r:List A) (i:Nat) (s:St3),c.2.drop i=r→Inv u t c.2.length s.2.1 s.2.2→
  Inv u t c.2.length (ZK (fun i s d=>nodeV u t l st i s d) i r s).2.1 (ZK (fun i s d=>nodeV u t l st i s d) i r s).2.2∧upL s.2.1 (ZK (fun i s d=>nodeV u t l st i s d) i r s).2.1 ∧
  ((ZK (fun i s d=>nodeV u t l st i s d) i r s).1=false→ZK (fun i s d=>nodeV u t l st i s d) i r s=s∧s.1=false∧∀ (j:Nat) (d:A),r[j]? = some d→Vs u t l s.2.1 (i+j) d)
 | [],i,s,_,v=>⟨v,ZEF _,fun h=>⟨rfl,h,fun j d k=>by simp at k⟩⟩
 | d::r,i,s,hd,v=>by
  have e:c.2[i]? = some d:=by
   have:=congrArg (fun q=>q[0]?) hd
   simpa using this
  obtain ⟨n1,n2,n3⟩:=Z1K (st:=st) hu ht hl hn hc v e
  obtain ⟨h1,h2,h3⟩:=ZPT hu ht hl hn hc r (i+1) (nodeV u t l st i s d) (by rw [← List.drop_drop,hd];rfl) n1
  rw [ZK]
  refine ⟨h1,Zzo n2 h2,fun h=>?_⟩
  obtain ⟨k1,k2,k3⟩:=h3 h
  obtain ⟨q1,q2,q3⟩:=n3 k2
  rw [q1] at k1 k3
  refine ⟨by rw [q1];exact k1,q2,fun j d' hj=>?_⟩
  cases j with
  | zero=>rw [List.getElem?_cons_zero] at hj;cases hj;exact q3
  | succ j=>
   rw [List.getElem?_cons_succ] at hj
   have:=k3 j d' hj
   rw [show i+(j+1)=i+1+j by omega]
   exact this
theorem ZXA (hu:unitOK u) (ht:0≤t) (hl:tabOK l) (hn:l.length≤1000) (hc:u.2.2.2[t.toNat]? = some c):∀ (n:Nat) (es:List E) (ns:List Int) (r:Int) (d:Bool),Inv u t c.2.length es ns→
  Inv u t c.2.length (runV u t l st c n es ns r d).1 (runV u t l st c n es ns r d).2.1∧upL es (runV u t l st c n es ns r d).1∧r≤(runV u t l st c n es ns r d).2.2.1∧(runV u t l st c n es ns r d).2.2.1≤r+n ∧
  ((runV u t l st c n es ns r d).2.2.2=true∨(runV u t l st c n es ns r d).2.2.1=r+n)∧(d=false→1≤n→r+1≤(runV u t l st c n es ns r d).2.2.1) ∧
  (d=false→(runV u t l st c n es ns r d).2.2.2=true→∀ (j:Nat) (a:A),c.2[j]? = some a→Vs u t l (runV u t l st c n es ns r d).1 j a)
 | 0,es,ns,r,d,v=>⟨v,ZEF _,Int.le_refl _,by simp [runV],.inr (by simp [runV]),fun _ h=>by omega,fun h k=>by simp only [runV] at k;rw [h] at k;cases k⟩
 | n+1,es,ns,r,true,v=>⟨v,ZEF _,Int.le_refl _,by simp only [runV,cond_true];omega,.inl rfl,(fun h=>nomatch h),fun h=>nomatch h⟩
 | n+1,es,ns,r,false,v=>by
  obtain ⟨h1,h2,h3⟩:=ZPT (st:=st) hu ht hl hn hc c.2 0 (false,es,ns) rfl v
  rw [show runV u t l st c (n+1) es ns r false=runV u t l st c n (Z5 u t l st c es ns).2.1 (Z5 u t l st c es ns).2.2 (r+1) (!(Z5 u t l st c es ns).1) from rfl]
  have h1:Inv u t c.2.length (Z5 u t l st c es ns).2.1 (Z5 u t l st c es ns).2.2:=h1
  have h2:upL es (Z5 u t l st c es ns).2.1:=h2
  have h3:(Z5 u t l st c es ns).1=false→Z5 u t l st c es ns=(false,es,ns)∧_∧∀ (j:Nat) (d:A),c.2[j]? = some d→Vs u t l es (0+j) d:=h3
  obtain ⟨i1,i2,i3,i4,i5,i6,i7⟩:=ZXA hu ht hl hn hc n (Z5 u t l st c es ns).2.1 (Z5 u t l st c es ns).2.2 (r+1) (!(Z5 u t l st c es ns).1) h1
  refine ⟨i1,Zzo h2 i2,by omega,by omega,?_,fun _ _=>i3,fun _ hd j a ha=>?_⟩
  ·rcases i5 with k | k
   ·exact .inl k
   ·exact .inr (by omega)
  ·cases hb:(Z5 u t l st c es ns).1
   ·obtain ⟨k1,_,k3⟩:=h3 hb
    have e:runV u t l st c n (Z5 u t l st c es ns).2.1 (Z5 u t l st c es ns).2.2 (r+1) (!false)=(es,ns,r+1,true):=by
     rw [k1]
     cases n<;>rfl
    rw [e]
    have:=k3 j a ha
    rwa [Nat.zero_add] at this
   ·rw [hb] at i7 hd
    exact i7 rfl hd j a ha
end
end
section
open Go.Proofs
theorem ZWf {x y:Int} (hx:okB x) (hy:okB y) (h:subB x y):andI x y=x:=by
 rw [Zsd hx hy]
 have:x.toNat &&& y.toNat=x.toNat:=Nat.eq_of_testBit_eq fun i=>by
  rw [Nat.testBit_and]
  cases q:x.toNat.testBit i
  ·rfl
  ·rw [h i q];rfl
 rw [this]
 unfold okB at hx
 omega
section
variable {u:U} {t:Int} {l l':List En} {st:List Int} {c:C} {a b z:E}
end
end
theorem ZNi {u:U} {t:Int} (h:0≤t∧t<(u.2.2.2.length:Int)):∃ c,u.2.2.2[t.toNat]? = some c:=⟨u.2.2.2[t.toNat]'(by omega),List.getElem?_eq_getElem _⟩
def ZLX:List Sh:=[.dat (.sl tI),.dat (.sl tI)]
def ZrI:Nat→List Nat:=fun c=>bif c.beq 0 then [1,7,8,9] else [4]
def ZBM:List Con:=[⟨127,ZvY,ZD0⟩,⟨126,Zov,Zti⟩]
def ZeM:StS:=⟨[(1,.sl tI),(7,.sl tI),(8,.int .i64),(9,.int .i64)],[],0⟩
def H4:StS:=⟨[(4,.undef)],[],0⟩
def H5:StS:=⟨[(4,.bool)],[],0⟩
abbrev YH:=((List I)×(List I)×Int×Int)
def ZAC:StD ZeM→YH:=fun ((a,b,c,d,_),_)=>(a,b,c,d)
def ZB3:YH→StD ZeM:=fun (a,b,c,d)=>((a,b,c,d,()),())
abbrev QV:=Unit
def ZUk (d:StD H4):QV:=()
def ZgL (x:QV):StD H4:=(((),()),())
abbrev QW:=Bool
def ZUl (d:StD H5):QW:=(d.1.1)
def ZgM (x:QW):StD H5:=((x,()),())
def VP (s1 s7:List I) (s8 s9:Int):Option (((List I)×(List I)×Int×Int)⊕(Unit⊕Bool)):=bif decide (s9<s8) then bif decide (0≤s9) then Za s7[s9.toNat]? none fun d6=>Za (Zfl (s1,s9,())) none fun d7=>Za (QB (d6,d7,())) none fun d8=>bif !d8 then some (.inr (.inr false)) else some (.inl (s1,s7,s8,IntKind.i64.wrap (s9+1))) else none else some (.inr (.inl PUnit.unit))
def ZpJ:YH→Option (YH⊕(QV⊕QW)):=fun (a,b,c,d)=>VP a b c d
def Zd9 (x:YH):Option (QV⊕QW):=Zh ZpJ Zl x
def Zt2:Nat→Tm→Prog (Nat×Tm):=(varP 0 (fun T h=>(rdS ZeM T h).map ZAC) Zd9 (fun y=>.alt y (altE 2 H4 ZgL) (altE 1 H5 ZgM)) (fun _ _=>.fail))
def ZFX:Lpc:=⟨97,0,21,(fun base T=>.norm base (ZrI 0) T (Zt2 base)),by kernel_rfl,by kernel_rfl,(loopU ZBM [] 40 1048576 8 (keep:=ZrI) (q:=Zt2) (by kernel_rfl) (Zv (s:=ZeM) (un:=ZB3) (by rfl) (fun _=>rfl) (ZW (Zn (s:=H4) (un:=ZgL) (flat:=ZUk) (by rfl) (fun _=>rfl)) (Zn (s:=H5) (un:=ZgM) (flat:=ZUl) (by rfl) (fun _=>rfl))) (step:=ZpJ) (fun _=>by kernel_rfl) (fun _ _ e=>⟨_,e⟩) (ZV (Zm 2 H4 ZgL) (Zm 1 H5 ZgM)) (ZB.fail _ _)))⟩
def ZuD (a0 a1:List I):Option Bool:=Za (Zd9 (a1,a0,(a0.length:Int),0)) none fun d4=>Sum.elim (fun e5=>some true) (fun e5=>some e5) d4
def ZgZ (x:((List I)×((List I)×Unit))):Option Bool:=ZuD x.1 x.2.1
def ZyH:=conP true ZLX (.dat .bool) ZgZ
theorem ZM2:Zf Tryz.prog 97 ZyH:=Ze (calU ZBM [ZFX] 40 1048576 8 97) true (by rfl) (by rfl) (fun x r e=>(Zk _ _ _ _ _ _ _).trans ((show _=ZgZ x by kernel_rfl).trans e)) (.inl rfl)
def ZdD (s1 s7:List I) (i:Nat)  (d:I):Option (Unit⊕(QV⊕QW)):=
 Za (Zfl (s1,(i:Int),())) (none) fun d7=>
  Za (QB (d,d7,())) (none) fun d8=>
  bif !d8 then
  some (.inr (.inr false))
 else some (.inl ())
def Zpq (s1 s7:List I):Option (QV⊕QW):=
 some (.inl PUnit.unit)
abbrev ZBq (s1 s7:List I) (i:Nat) (s:Unit):YH:=(s1,s7,(s7.length:Int),(i:Int))
def ZjB (s1 s7:List I) (s:Unit):Option (QV⊕QW):=Zp (fun i s d=>ZdD s1 s7 i  d) (fun s=>Zpq s1 s7 ) 0 s7 s
theorem ZBe (s1 s7:List I) (s:Unit) (hl:s7.length<9223372036854775807):Zd9 (s1,s7,(s7.length:Int),0)=ZjB s1 s7 s:=by
 unfold Zd9 ZjB
 refine Zs s7 (ZBq s1 s7) _ _ ?_ ?_ s (by unfold Zl;omega)
 ·intro i s d hi hd
  have e1:decide ((i:Int)<(s7.length:Int))=true:=dT0 (by omega)
  have e2:decide (0≤(i:Int))=true:=dT0 (by omega)
  have e3:Int.toNat (i:Int)=i:=tN0 i
  have e4:=Zq hi (Nat.le_of_lt hl)
  show VP (s1) (s7) ((s7.length:Int)) ((i:Int))=upd _ (ZdD s1 s7 i  d)
  unfold VP ZdD
  simp only [e1,e2,e3,e4,hd,cond_true,cond_false,Zb,ZC,ZF,ZD,ZI,ZJ,ZE]
 ·intro s
  have e1:decide ((s7.length:Int)<(s7.length:Int))=false:=dF0 (by omega)
  show VP (s1) (s7) ((s7.length:Int)) ((s7.length:Int))=_
  unfold VP Zpq
  rw [e1]
  rfl
def ZKZ:List Sh:=[.dat (.int .i64),.dat (.int .i64)]
def ZM9:List Con:=[⟨128,ZoS,ZuN⟩]
def ZOc (a0 a1:Int):Option Bool:=some (IntKind.i64.wrap (↑(BitVec.ofInt IntKind.i64.bits a0 &&& BitVec.ofInt IntKind.i64.bits a1).toNat:Int)==a0)
def ZAg (x:Int×(Int×Unit)):Option Bool:=ZOc x.1 x.2.1
def ZwF:=conP true ZKZ (.dat .bool) ZAg
theorem ZLK:Zf Tryz.prog 98 ZwF:=Ze (calU ZM9 [] 40 1048576 8 98) true (by rfl) (by rfl) (fun x r e=>(Zk _ _ _ _ _ _ _).trans ((show _=ZAg x by kernel_rfl).trans e)) (.inl rfl)
def ZUA:List Sh:=[.dat tE,.dat tE]
def ZYN:List Con:=[⟨97,ZyH,ZM2⟩,⟨98,ZwF,ZLK⟩]
def ZHw (a0 a1:E):Option Bool:=bif !a0.1 then some true else bif a1.1 then Za (ZgZ (a0.2.1,a1.2.1,())) none fun d3=>bif d3 then Za (ZgZ (a0.2.2.1,a1.2.2.1,())) none fun d4=>bif d4 then Za (ZgZ (a0.2.2.2.1,a1.2.2.2.1,())) none fun d5=>bif d5 then bif IntKind.i64.wrap (↑(BitVec.ofInt IntKind.i64.bits a1.2.2.2.2.1 &&& BitVec.ofInt IntKind.i64.bits a0.2.2.2.2.1).toNat:Int)==a1.2.2.2.2.1 then some (IntKind.i64.wrap (↑(BitVec.ofInt IntKind.i64.bits a0.2.2.2.2.2 &&& BitVec.ofInt IntKind.i64.bits a1.2.2.2.2.2).toNat:Int)==a0.2.2.2.2.2) else some false else some false else some false else some false else some false
def Zg8 (x:E×(E×Unit)):Option Bool:=ZHw x.1 x.2.1
def ZKg:=conP true ZUA (.dat .bool) Zg8
theorem ZVL:Zf Tryz.prog 62 ZKg:=Ze (calU ZYN [] 40 1048576 8 62) true (by rfl) (by rfl) (fun x r e=>(Zk _ _ _ _ _ _ _).trans ((show _=Zg8 x by kernel_rfl).trans e)) (.inl rfl)
abbrev ZvO:Type:=(Int×(List E)×(List En)×(List A)×Int×Int×(List Int)×(List Int)×Int×(List C))
def ZNF:List Sh:=[.dat tU,.dat (.int .i64),.dat (.sl tE),.dat (.sl tEn)]
def ZtC:Nat→List Nat:=fun c=>bif c.beq 0 then [1,2,3,4,34,35,36] else [8]
def ZFc:List Con:=[⟨50,Zuw,ZE3⟩,⟨62,ZKg,ZVL⟩,⟨63,Zzt,ZKF⟩]
def Zf6:StS:=⟨[(1,.int .i64),(2,.sl tE),(3,.sl tEn),(4,.ptr 0 0),(34,.sl tA),(35,.int .i64),(36,.int .i64)],[(0,.box [.sl (.int .i64),.sl (.int .i64),.int .i64,.sl tC])],1⟩
def V2:StS:=⟨[(8,.undef)],[],0⟩
def V3:StS:=⟨[(8,.bool)],[],0⟩
abbrev Hq:=ZvO
def ZCt:StD Zf6→Hq:=fun ((a,b,c,_,d,e,f,_),((g,h,i,j,_),_))=>(a,b,c,d,e,f,g,h,i,j)
def ZEd:Hq→StD Zf6:=fun (a,b,c,d,e,f,g,h,i,j)=>((a,b,c,(),d,e,f,()),((g,h,i,j,()),()))
abbrev Jh:=Unit
def ZUQ (d:StD V2):Jh:=()
def Zir (x:Jh):StD V2:=(((),()),())
abbrev Ji:=Bool
def ZUR (d:StD V3):Ji:=(d.1.1)
def Zis (x:Ji):StD V3:=((x,()),())
def W5 (s1:Int) (s2:List E) (s3:List En) (s34:List A) (s35 s36:Int) (b0 b0_1:List Int) (b0_2:Int) (b0_3:List C):Option (ZvO⊕(Unit⊕Bool)):=bif decide (s36<s35) then bif decide (0≤s36) then Za s34[s36.toNat]? none fun d12=>bif decide (0≤s36) then Za s2[s36.toNat]? none fun d13=>Za (Ze6 ((b0,b0_1,b0_2,b0_3),s1,s36,d13,s3,())) none fun d14=>bif decide (0≤d12.2.2.2.2.2.2.2.1) then Za s2[Int.toNat d12.2.2.2.2.2.2.2.1]? none fun d15=>Za (Zg8 (d14.1,d15,())) none fun d16=>bif !d16 then some (.inr (.inr false)) else bif decide (0≤d12.2.2.2.2.2.2.2.2) then Za s2[Int.toNat d12.2.2.2.2.2.2.2.2]? none fun d17=>Za (Zg8 (d14.2.1,d17,())) none fun d18=>bif !d18 then some (.inr (.inr false)) else some (.inl (s1,s2,s3,s34,s35,IntKind.i64.wrap (s36+1),b0,b0_1,b0_2,b0_3)) else none else none else none else none else some (.inr (.inl PUnit.unit))
def Zq4:Hq→Option (Hq⊕(Jh⊕Ji)):=fun (a,b,c,d,e,f,g,h,i,j)=>W5 a b c d e f g h i j
def Zbg (x:Hq):Option (Jh⊕Ji):=Zh Zq4 Zl x
def Zvj:Nat→Tm→Prog (Nat×Tm):=(varP 0 (fun T h=>(rdS Zf6 T h).map ZCt) Zbg (fun y=>.alt y (altE 2 V2 Zir) (altE 1 V3 Zis)) (fun _ _=>.fail))
def ZHL:Lpc:=⟨37,0,71,(fun base T=>.norm base (ZtC 0) T (Zvj base)),by kernel_rfl,by kernel_rfl,(loopU ZFc [] 40 1048576 8 (keep:=ZtC) (q:=Zvj) (by kernel_rfl) (Zv (s:=Zf6) (un:=ZEd) (by rfl) (fun _=>rfl) (ZW (Zn (s:=V2) (un:=Zir) (flat:=ZUQ) (by rfl) (fun _=>rfl)) (Zn (s:=V3) (un:=Zis) (flat:=ZUR) (by rfl) (fun _=>rfl))) (step:=Zq4) (fun _=>by kernel_rfl) (fun _ _ e=>⟨_,e⟩) (ZV (Zm 2 V2 Zir) (Zm 1 V3 Zis)) (ZB.fail _ _)))⟩
def ZmV (a0:U) (a1:Int) (a2:List E) (a3:List En):Option Bool:=bif decide (0≤a1) then Za a0.2.2.2[a1.toNat]? none fun d6=>bif (a2.length:Int) !=(List.length d6.2:Int) then some false else Za (Zlw (a0,a1,())) none fun d7=>Za a2[Int.toNat (0:Int)]? none fun d8=>Za (Zg8 (d7,d8,())) none fun d9=>bif !d9 then some false else Za (Zbg (a1,a2,a3,d6.2,(List.length d6.2:Int),0,a0)) none fun d10=>Sum.elim (fun e11=>some true) (fun e11=>some e11) d10 else none
def K9 (x:(U×(Int×((List E)×((List En)×Unit))))):Option Bool:=ZmV x.1 x.2.1 x.2.2.1 x.2.2.2.1
def Zsi:=conP true ZNF (.dat .bool) K9
theorem ZBD:Zf Tryz.prog 37 Zsi:=Ze (calU ZFc [ZHL] 40 1048576 8 37) true (by rfl) (by rfl) (fun x r e=>(Zk _ _ _ _ _ _ _).trans ((show _=K9 x by kernel_rfl).trans e)) (.inl rfl)
def Zes (s1:Int) (s2:List E) (s3:List En) (b0 b0_1:List Int) (b0_2:Int) (b0_3:List C) (s34:List A) (i:Nat)  (d:A):Option (Unit⊕(Jh⊕Ji)):=
 Za s2[i]? (none) fun d13=>
  Za (Ze6 ((b0,b0_1,b0_2,b0_3),s1,(i:Int),d13,s3,())) (none) fun d14=>
  bif decide (0≤d.2.2.2.2.2.2.2.1) then
  Za s2[Int.toNat d.2.2.2.2.2.2.2.1]? (none) fun d15=>
  Za (Zg8 (d14.1,d15,())) (none) fun d16=>
  bif !d16 then
  some (.inr (.inr false))
 else bif decide (0≤d.2.2.2.2.2.2.2.2) then
  Za s2[Int.toNat d.2.2.2.2.2.2.2.2]? (none) fun d17=>
  Za (Zg8 (d14.2.1,d17,())) (none) fun d18=>
  bif !d18 then
  some (.inr (.inr false))
 else some (.inl ())
 else none
 else none
def Zql (s1:Int) (s2:List E) (s3:List En) (b0 b0_1:List Int) (b0_2:Int) (b0_3:List C) (s34:List A):Option (Jh⊕Ji):=
 some (.inl PUnit.unit)
abbrev ZDN (s1:Int) (s2:List E) (s3:List En) (b0 b0_1:List Int) (b0_2:Int) (b0_3:List C) (s34:List A) (i:Nat) (s:Unit):Hq:=(s1,s2,s3,s34,(s34.length:Int),(i:Int),b0,b0_1,b0_2,b0_3)
def ZkK (s1:Int) (s2:List E) (s3:List En) (b0 b0_1:List Int) (b0_2:Int) (b0_3:List C) (s34:List A) (s:Unit):Option (Jh⊕Ji):=Zp (fun i s d=>Zes s1 s2 s3 b0 b0_1 b0_2 b0_3 s34 i  d) (fun s=>Zql s1 s2 s3 b0 b0_1 b0_2 b0_3 s34 ) 0 s34 s
theorem ZDC (s1:Int) (s2:List E) (s3:List En) (b0 b0_1:List Int) (b0_2:Int) (b0_3:List C) (s34:List A) (s:Unit) (hl:s34.length<9223372036854775807):Zbg (s1,s2,s3,s34,(s34.length:Int),0,b0,b0_1,b0_2,b0_3)=ZkK s1 s2 s3 b0 b0_1 b0_2 b0_3 s34 s:=by
 unfold Zbg ZkK
 refine Zs s34 (ZDN s1 s2 s3 b0 b0_1 b0_2 b0_3 s34) _ _ ?_ ?_ s (by unfold Zl;omega)
 ·intro i s d hi hd
  have e1:decide ((i:Int)<(s34.length:Int))=true:=dT0 (by omega)
  have e2:decide (0≤(i:Int))=true:=dT0 (by omega)
  have e3:Int.toNat (i:Int)=i:=tN0 i
  have e4:=Zq hi (Nat.le_of_lt hl)
  show W5 (s1) (s2) (s3) (s34) ((s34.length:Int)) ((i:Int)) (b0) (b0_1) (b0_2) (b0_3)=upd _ (Zes s1 s2 s3 b0 b0_1 b0_2 b0_3 s34 i  d)
  unfold W5 Zes
  simp only [e1,e2,e3,e4,hd,cond_true,cond_false,Zb,ZC,ZF,ZD,ZI,ZJ,ZE]
 ·intro s
  have e1:decide ((s34.length:Int)<(s34.length:Int))=false:=dF0 (by omega)
  show W5 (s1) (s2) (s3) (s34) ((s34.length:Int)) ((s34.length:Int)) (b0) (b0_1) (b0_2) (b0_3)=_
  unfold W5 Zql
  rw [e1]
  rfl
def ZK5:List Sh:=[.dat tU,.dat (.int .i64),.dat (.sl tE),.dat (.sl tEn)]
def ZqI:Nat→List Nat:=fun c=>bif c.beq 0 then [1,2,3,4,9,10] else [8]
def Zzf:List Con:=[⟨55,Zqc,Zza⟩,⟨29,Zuz,ZE6⟩,⟨56,ZwM,ZIv⟩]
def ZdM:StS:=⟨[(1,.int .i64),(2,.sl tE),(3,.sl tEn),(4,.ptr 0 0),(9,.sl tA),(10,.int .i64)],[(0,.box [.sl (.int .i64),.sl (.int .i64),.int .i64,.sl tC])],1⟩
def Hd:StS:=⟨[(8,.undef)],[],0⟩
def He:StS:=⟨[(8,.bool)],[],0⟩
abbrev K2:=(Int×(List E)×(List En)×(List A)×Int×(List Int)×(List Int)×Int×(List C))
def Zzz:StD ZdM→K2:=fun ((a,b,c,_,d,e,_),((f,g,h,i,_),_))=>(a,b,c,d,e,f,g,h,i)
def ZAf:K2→StD ZdM:=fun (a,b,c,d,e,f,g,h,i)=>((a,b,c,(),d,e,()),((f,g,h,i,()),()))
abbrev QL:=Unit
def ZSw (d:StD Hd):QL:=()
def ZfK (x:QL):StD Hd:=(((),()),())
abbrev QM:=Bool
def ZSx (d:StD He):QM:=(d.1.1)
def ZfL (x:QM):StD He:=((x,()),())
def H1 (s1:Int) (s2:List E) (s3:List En) (s9:List A) (s10:Int) (b0 b0_1:List Int) (b0_2:Int) (b0_3:List C):Option ((Int×(List E)×(List En)×(List A)×Int×(List Int)×(List Int)×Int×(List C))⊕(Unit⊕Bool)):=bif decide (s10<(s9.length:Int)) then bif decide (0≤s10) then Za s2[s10.toNat]? none fun d11=>Za (Zce ((b0,b0_1,b0_2,b0_3),s1,s10,d11,s3,())) none fun d12=>bif decide (0≤s10) then Za s9[s10.toNat]? none fun d13=>bif decide (0≤d13.2.2.2.2.2.2.2.1) then Za s2[Int.toNat d13.2.2.2.2.2.2.2.1]? none fun d14=>Za (YA (d12.1,d14,())) none fun d15=>bif !d15 then some (.inr (.inr false)) else bif decide (0≤s10) then Za s9[s10.toNat]? none fun d16=>bif decide (0≤d16.2.2.2.2.2.2.2.2) then Za s2[Int.toNat d16.2.2.2.2.2.2.2.2]? none fun d17=>Za (YA (d12.2.1,d17,())) none fun d18=>bif !d18 then some (.inr (.inr false)) else some (.inl (s1,s2,s3,s9,IntKind.i64.wrap (s10+1),b0,b0_1,b0_2,b0_3)) else none else none else none else none else none else some (.inr (.inl PUnit.unit))
def ZoL:K2→Option (K2⊕(QL⊕QM)):=fun (a,b,c,d,e,f,g,h,i)=>H1 a b c d e f g h i
def Vx (x:K2):Option (QL⊕QM):=Zh ZoL Zl x
def ZrS:Nat→Tm→Prog (Nat×Tm):=(varP 0 (fun T h=>(rdS ZdM T h).map Zzz) Vx (fun y=>.alt y (altE 2 Hd ZfK) (altE 1 He ZfL)) (fun _ _=>.fail))
def ZDf:Lpc:=⟨36,0,74,(fun base T=>.norm base (ZqI 0) T (ZrS base)),by kernel_rfl,by kernel_rfl,(loopU Zzf [] 40 1048576 8 (keep:=ZqI) (q:=ZrS) (by kernel_rfl) (Zv (s:=ZdM) (un:=ZAf) (by rfl) (fun _=>rfl) (ZW (Zn (s:=Hd) (un:=ZfK) (flat:=ZSw) (by rfl) (fun _=>rfl)) (Zn (s:=He) (un:=ZfL) (flat:=ZSx) (by rfl) (fun _=>rfl))) (step:=ZoL) (fun _=>by kernel_rfl) (fun _ _ e=>⟨_,e⟩) (ZV (Zm 2 Hd ZfK) (Zm 1 He ZfL)) (ZB.fail _ _)))⟩
def Zfi (a0:U) (a1:Int) (a2:List E) (a3:List En):Option Bool:=bif decide (0≤a1) then Za a0.2.2.2[a1.toNat]? none fun d6=>bif (a2.length:Int) !=(List.length d6.2:Int) then some false else Za (Zg0 (a0,a1,())) none fun d7=>Za a2[Int.toNat (0:Int)]? none fun d8=>Za (YA (d7,d8,())) none fun d9=>bif !d9 then some false else Za (Vx (a1,a2,a3,d6.2,0,a0)) none fun d10=>Sum.elim (fun e11=>some true) (fun e11=>some e11) d10 else none
def KA (x:(U×(Int×((List E)×((List En)×Unit))))):Option Bool:=Zfi x.1 x.2.1 x.2.2.1 x.2.2.2.1
def Zo9:=conP true ZK5 (.dat .bool) KA
theorem ZxO:Zf Tryz.prog 36 Zo9:=Ze (calU Zzf [ZDf] 40 1048576 8 36) true (by rfl) (by rfl) (fun x r e=>(Zk _ _ _ _ _ _ _).trans ((show _=KA x by kernel_rfl).trans e)) (.inl rfl)
def Zcn (s1:Int) (s2:List E) (s3:List En) (b0 b0_1:List Int) (b0_2:Int) (b0_3:List C) (s9:List A) (i:Nat)  (d:A):Option (Unit⊕(QL⊕QM)):=
 Za s2[i]? (none) fun d11=>
  Za (Zce ((b0,b0_1,b0_2,b0_3),s1,(i:Int),d11,s3,())) (none) fun d12=>
  bif decide (0≤d.2.2.2.2.2.2.2.1) then
  Za s2[Int.toNat d.2.2.2.2.2.2.2.1]? (none) fun d14=>
  Za (YA (d12.1,d14,())) (none) fun d15=>
  bif !d15 then
  some (.inr (.inr false))
 else bif decide (0≤d.2.2.2.2.2.2.2.2) then
  Za s2[Int.toNat d.2.2.2.2.2.2.2.2]? (none) fun d17=>
  Za (YA (d12.2.1,d17,())) (none) fun d18=>
  bif !d18 then
  some (.inr (.inr false))
 else some (.inl ())
 else none
 else none
def ZoA (s1:Int) (s2:List E) (s3:List En) (b0 b0_1:List Int) (b0_2:Int) (b0_3:List C) (s9:List A):Option (QL⊕QM):=
 some (.inl PUnit.unit)
abbrev Zz4 (s1:Int) (s2:List E) (s3:List En) (b0 b0_1:List Int) (b0_2:Int) (b0_3:List C) (s9:List A) (i:Nat) (s:Unit):K2:=(s1,s2,s3,s9,(i:Int),b0,b0_1,b0_2,b0_3)
def Zio (s1:Int) (s2:List E) (s3:List En) (b0 b0_1:List Int) (b0_2:Int) (b0_3:List C) (s9:List A) (s:Unit):Option (QL⊕QM):=Zp (fun i s d=>Zcn s1 s2 s3 b0 b0_1 b0_2 b0_3 s9 i  d) (fun s=>ZoA s1 s2 s3 b0 b0_1 b0_2 b0_3 s9 ) 0 s9 s
theorem Zz0 (s1:Int) (s2:List E) (s3:List En) (b0 b0_1:List Int) (b0_2:Int) (b0_3:List C) (s9:List A) (s:Unit) (hl:s9.length<9223372036854775807):Vx (s1,s2,s3,s9,0,b0,b0_1,b0_2,b0_3)=Zio s1 s2 s3 b0 b0_1 b0_2 b0_3 s9 s:=by
 unfold Vx Zio
 refine Zs s9 (Zz4 s1 s2 s3 b0 b0_1 b0_2 b0_3 s9) _ _ ?_ ?_ s (by unfold Zl;omega)
 ·intro i s d hi hd
  have e1:decide ((i:Int)<(s9.length:Int))=true:=dT0 (by omega)
  have e2:decide (0≤(i:Int))=true:=dT0 (by omega)
  have e3:Int.toNat (i:Int)=i:=tN0 i
  have e4:=Zq hi (Nat.le_of_lt hl)
  show H1 (s1) (s2) (s3) (s9) ((i:Int)) (b0) (b0_1) (b0_2) (b0_3)=upd _ (Zcn s1 s2 s3 b0 b0_1 b0_2 b0_3 s9 i  d)
  unfold H1 Zcn
  simp only [e1,e2,e3,e4,hd,cond_true,cond_false,Zb,ZC,ZF,ZD,ZI,ZJ,ZE]
 ·intro s
  have e1:decide ((s9.length:Int)<(s9.length:Int))=false:=dF0 (by omega)
  show H1 (s1) (s2) (s3) (s9) ((s9.length:Int)) (b0) (b0_1) (b0_2) (b0_3)=_
  unfold H1 ZoA
  rw [e1]
  rfl
section
open Go.Proofs
def rowsB (a b:List I):Bool:=allIx (fun i x=>leqB x (rowAt b i)) 0 a
theorem ZH7 (a b:List I) (ha:a.length≤1000):ZuD a b=some (rowsB a b):=by
 unfold ZuD
 rw [ZBe b a () (by omega)]
 unfold ZjB
 rw [Vo (p:=fun i x=>leqB x (rowAt b i)) (o:=.inr false) a 0 fun j d hd=>?_]
 ·unfold rowsB
  cases allIx (fun i x=>leqB x (rowAt b i)) 0 a<;>rfl
 ·unfold ZdD
  simp only [Zfl,ZLB,Zb,QB,Zkj]
  cases leqB d (rowAt b (0+j))<;>rfl
theorem ZTa (a b:List I) (ha:a.length≤1000):ZmY a b=some (rowsB a b):=by
 unfold ZmY
 rw [ZqU b a () (by omega)]
 unfold ZeK
 rw [Vo (p:=fun i x=>leqB x (rowAt b i)) (o:=.inr false) a 0 fun j d hd=>?_]
 ·unfold rowsB
  cases allIx (fun i x=>leqB x (rowAt b i)) 0 a<;>rfl
 ·unfold WS
  simp only [YB,ZzV,Zb,JX,ZkI]
  cases leqB d (rowAt b (0+j))<;>rfl
theorem ZLH {a b:List I} (hl:a.length=b.length):rowsB a b=true↔leR a b:=by
 unfold rowsB
 rw [Zpo]
 constructor
 ·intro h
  refine ⟨hl,fun i x y hx hy=>?_⟩
  have:=h i x hx
  rwa [Nat.zero_add,ZBm hy] at this
 ·intro h j d hd
  have hj:j<b.length:=by rw [← hl];exact (List.getElem?_eq_some_iff.1 hd).1
  rw [Nat.zero_add,ZBm (List.getElem?_eq_getElem hj)]
  exact h.2 j d _ hd (List.getElem?_eq_getElem hj)
theorem ZJf {a b:Int} (ha:okB a) (hb:okB b):(andI a b==a)=true↔subB a b:=by
 rw [beq_iff_eq]
 refine ⟨fun h=>?_,ZWf ha hb⟩
 have:=Z2n ha hb
 rwa [h] at this
theorem ZT9 {a b:Int} (ha:okB a) (hb:okB b):(IntKind.i64.wrap ((BitVec.ofInt IntKind.i64.bits a &&& ~~~BitVec.ofInt IntKind.i64.bits b).toNat:Int)==0)=true↔subB a b:=by
 refine ⟨fun h=>?_,ZIP ha hb⟩
 unfold okB at *
 obtain ⟨r,h1,h2,h3⟩:=ZKY (a:=a.toNat) (b:=b.toNat) (by omega) (by omega)
 rw [show ((a.toNat:Nat):Int)=a by omega,show ((b.toNat:Nat):Int)=b by omega] at h1
 rw [h1,beq_iff_eq] at h
 have hr:r=0:=by omega
 intro i q
 have:=h3 i
 rw [hr,Nat.zero_testBit,q,Bool.true_and] at this
 simpa using this.symm
def leEB (x y:E):Bool:=bif !x.1 then true else bif y.1 then rowsB x.2.1 y.2.1&&(rowsB x.2.2.1 y.2.2.1&&(rowsB x.2.2.2.1 y.2.2.2.1&&(andI y.2.2.2.2.1 x.2.2.2.2.1==y.2.2.2.2.1&&andI x.2.2.2.2.2 y.2.2.2.2.2==x.2.2.2.2.2))) else false
section
variable {u:U} {t:Int} {x y:E}
theorem ZH4 (hu:unitOK u) (hx:x.1=true→envOK u t x):ZHw x y=some (leEB x y):=by
 unfold ZHw leEB
 cases x1:x.1
 ·rfl
 have s:=Zqi hu (hx x1)
 cases y1:y.1
 ·rfl
 simp only [Bool.not_true,cond_false,cond_true,ZgZ,ZH7 _ _ s.1,ZH7 _ _ s.2.1,ZH7 _ _ s.2.2,Zb]
 unfold andI
 cases rowsB x.2.1 y.2.1<;>cases rowsB x.2.2.1 y.2.2.1<;>cases rowsB x.2.2.2.1 y.2.2.2.1<;>(try rfl)
 simp only [cond_true,Bool.true_and]
 cases (IntKind.i64.wrap (((BitVec.ofInt IntKind.i64.bits y.2.2.2.2.1 &&& BitVec.ofInt IntKind.i64.bits x.2.2.2.2.1).toNat:Nat):Int)==y.2.2.2.2.1)<;>rfl
theorem ZqM (hu:unitOK u) (hx:x.1=true→envOK u t x) (hy:y.1=true→envOK u t y):ZoB x y=some (leEB x y):=by
 unfold ZoB leEB
 cases x1:x.1
 ·rfl
 have ox:=hx x1
 have s:=Zqi hu ox
 cases y1:y.1
 ·rfl
 have oy:=hy y1
 have e1:(IntKind.i64.wrap ((BitVec.ofInt IntKind.i64.bits y.2.2.2.2.1 &&& ~~~BitVec.ofInt IntKind.i64.bits x.2.2.2.2.1).toNat:Int)==0)=(andI y.2.2.2.2.1 x.2.2.2.2.1==y.2.2.2.2.1):=by
  rw [Bool.eq_iff_iff,ZT9 oy.must ox.must,ZJf oy.must ox.must]
 have e2:(IntKind.i64.wrap ((BitVec.ofInt IntKind.i64.bits x.2.2.2.2.2 &&& ~~~BitVec.ofInt IntKind.i64.bits y.2.2.2.2.2).toNat:Int)==0)=(andI x.2.2.2.2.2 y.2.2.2.2.2==x.2.2.2.2.2):=by
  rw [Bool.eq_iff_iff,ZT9 ox.may oy.may,ZJf ox.may oy.may]
 simp only [Bool.not_true,cond_false,cond_true,Zfn,ZTa _ _ s.1,ZTa _ _ s.2.1,ZTa _ _ s.2.2,Zb,e1,e2]
 cases rowsB x.2.1 y.2.1<;>cases rowsB x.2.2.1 y.2.2.1<;>cases rowsB x.2.2.2.1 y.2.2.2.1<;>(try rfl)
 simp only [cond_true,Bool.true_and]
 cases (andI y.2.2.2.2.1 x.2.2.2.2.1==y.2.2.2.2.1)<;>rfl
theorem ZI4 (hx:x.1=true→envOK u t x) (hy:y.1=true→envOK u t y) (h:leO x y):leEB x y=true:=by
 unfold leEB
 cases x1:x.1
 ·rfl
 have k:=h x1
 have ox:=hx x1
 have oy:=hy k.on
 obtain ⟨l1,l2,l3⟩:=ZN6 ox oy
 rw [k.on,(ZLH l1).2 k.v,(ZLH l2).2 k.g,(ZLH l3).2 k.a,(ZJf oy.must ox.must).2 k.must,(ZJf ox.may oy.may).2 k.may]
 rfl
end
def Zwm (u:U) (t:Int) (l:List En) (c:C) (es:List E):Bool:=
 es.length==c.2.length&&(leEB (ZfA u c) ((es[0]?).getD offE)&&allIx (fun i d=>leEB (outV u t i ((es[i]?).getD offE) l).1 ((es[d.2.2.2.2.2.2.2.1.toNat]?).getD offE)&&leEB (outV u t i ((es[i]?).getD offE) l).2.1 ((es[d.2.2.2.2.2.2.2.2.toNat]?).getD offE)) 0 c.2)
section
variable {u:U} {t:Int} {l:List En} {c:C}
theorem out_eq' (hu:unitOK u) (ht:0≤t) (hl:tabOK l) (hn:l.length≤1000) (hc:u.2.2.2[t.toNat]? = some c) {e:E} (he:e.1=true→envOK u t e) {i:Nat} (hi:i<c.2.length) :
  Za2 u t i e l=some (outV u t i e l)∧ZnD u t i e l=some (outV u t i e l)∧outOK u t i e (outV u t i e l):=by
 obtain ⟨o,h1,h2,h3,h4⟩:=Z2w hu ht hl hn he (n:=(i:Int)) (by omega) hc (by omega)
 have:outV u t i e l=o:=by unfold outV;rw [h1];rfl
 rw [this]
 exact ⟨h1,h2,h3⟩
theorem ZDo (hu:unitOK u) (ht:0≤t) (hl:tabOK l) (hn:l.length≤1000) (hc:u.2.2.2[t.toNat]? = some c) {es:List E} (hes:∀ x∈es,x.1=true→envOK u t x) :
  ZmV u t es l=some (Zwm u t l c es)∧Zfi u t es l=some (Zwm u t l c es):=by
 have cl:=(hu.ts c (mG0 hc)).n
 have e0:decide (0≤t)=true:=dT0 ht
 have f1:=ZKu u t hu ht hc
 have f2:=ZEX u t hu ht hc
 have fo:=ZLh u t hu hc
 unfold ZmV Zfi Zwm
 simp only [e0,cond_true,hc,Zb]
 by_cases q:es.length=c.2.length
 case neg=>
  have q1:((es.length:Int) !=(c.2.length:Int))=true:=by simp;omega
  have q2:(es.length==c.2.length)=false:=by simpa using q
  simp only [q1,q2,cond_true,Bool.false_and,and_self]
 have q1:((es.length:Int) !=(c.2.length:Int))=false:=by simp;omega
 have q2:(es.length==c.2.length)=true:=by simpa using q
 have g0:es[0]? = some (es[0]'(by omega)):=List.getElem?_eq_getElem _
 have o0:=hes _ (List.getElem_mem (h:=(by omega:0<es.length)))
 have g0':es[Int.toNat (0:Int)]? = some (es[0]'(by omega)):=g0
 have l1:=ZH4 (y:=es[0]'(by omega)) hu (fun _=>fo)
 have l2:=ZqM hu (fun _=>fo) o0
 simp only [q1,q2,cond_false,Bool.true_and,Zlw,f1,Zg0,f2,Zb,g0,g0',Option.getD_some,Zg8,l1,YA,l2]
 cases leEB (ZfA u c) (es[0]'(by omega))
 ·exact ⟨rfl,rfl⟩
 simp only [Bool.not_true,cond_false,Bool.true_and]
 have r1:=ZDC t es l u.1 u.2.1 u.2.2.1 u.2.2.2 c.2 () (by omega)
 have r2:=Zz0 t es l u.1 u.2.1 u.2.2.1 u.2.2.2 c.2 () (by omega)
 have r1:Zbg (t,es,l,c.2,(c.2.length:Int),0,u)=_:=r1
 have r2:Vx (t,es,l,c.2,0,u)=_:=r2
 have look:∀ {k:Int},0≤k∧k<(c.2.length:Int)→∃ x,es[k.toNat]? = some x∧(x.1=true→envOK u t x):=fun {k} hk=>
  ⟨es[k.toNat]'(by omega),List.getElem?_eq_getElem _,hes _ (List.getElem_mem _)⟩
 unfold ZkK at r1
 unfold Zio at r2
 rw [Vo (p:=fun i d=>leEB (outV u t i ((es[i]?).getD offE) l).1 ((es[d.2.2.2.2.2.2.2.1.toNat]?).getD offE)&&leEB (outV u t i ((es[i]?).getD offE) l).2.1 ((es[d.2.2.2.2.2.2.2.2.toNat]?).getD offE)) (o:=.inr false) c.2 0 fun j d hd=>?_] at r1
 ·rw [Vo (p:=fun i d=>leEB (outV u t i ((es[i]?).getD offE) l).1 ((es[d.2.2.2.2.2.2.2.1.toNat]?).getD offE)&&leEB (outV u t i ((es[i]?).getD offE) l).2.1 ((es[d.2.2.2.2.2.2.2.2.toNat]?).getD offE)) (o:=.inr false) c.2 0 fun j d hd=>?_] at r2
  ·rw [r1,r2]
   cases allIx (fun i d=>leEB (outV u t i ((es[i]?).getD offE) l).1 ((es[d.2.2.2.2.2.2.2.1.toNat]?).getD offE)&&leEB (outV u t i ((es[i]?).getD offE) l).2.1 ((es[d.2.2.2.2.2.2.2.2.toNat]?).getD offE)) 0 c.2<;>exact ⟨rfl,rfl⟩
  ·rw [Nat.zero_add]
   have hj:=(List.getElem?_eq_some_iff.1 hd).1
   have ha:=(hu.ts c (mG0 hc)).a d (mG0 hd)
   obtain ⟨e,ge,oe⟩:=look (k:=(j:Int)) (by omega)
   rw [tN0] at ge
   obtain ⟨a,ga,oa⟩:=look ha.nx
   obtain ⟨b,gb,ob⟩:=look ha.el
   obtain ⟨h1,h2,h3⟩:=out_eq' hu ht hl hn hc oe hj
   have m1:=ZqM hu h3.nx oa
   have m2:=ZqM hu h3.el ob
   have d1:decide (0≤d.2.2.2.2.2.2.2.1)=true:=dT0 ha.nx.1
   have d2:decide (0≤d.2.2.2.2.2.2.2.2)=true:=dT0 ha.el.1
   unfold Zcn
   simp only [ge,hd,ga,gb,Zb,Option.getD_some,Zce,h2,d1,d2,cond_true,YA,m1,m2]
   cases leEB (outV u t j e l).1 a<;>cases leEB (outV u t j e l).2.1 b<;>rfl
 ·rw [Nat.zero_add]
  have hj:=(List.getElem?_eq_some_iff.1 hd).1
  have ha:=(hu.ts c (mG0 hc)).a d (mG0 hd)
  obtain ⟨e,ge,oe⟩:=look (k:=(j:Int)) (by omega)
  rw [tN0] at ge
  obtain ⟨a,ga,oa⟩:=look ha.nx
  obtain ⟨b,gb,ob⟩:=look ha.el
  obtain ⟨h1,h2,h3⟩:=out_eq' hu ht hl hn hc oe hj
  have m1:=ZH4 (y:=a) hu h3.nx
  have m2:=ZH4 (y:=b) hu h3.el
  have d1:decide (0≤d.2.2.2.2.2.2.2.1)=true:=dT0 ha.nx.1
  have d2:decide (0≤d.2.2.2.2.2.2.2.2)=true:=dT0 ha.el.1
  unfold Zes
  simp only [ge,hd,ga,gb,Zb,Option.getD_some,Ze6,h1,d1,d2,cond_true,Zg8,m1,m2]
  cases leEB (outV u t j e l).1 a<;>cases leEB (outV u t j e l).2.1 b<;>rfl
theorem ZZw (hu:unitOK u) (ht:0≤t) (hl:tabOK l) (hn:l.length≤1000) (hc:u.2.2.2[t.toNat]? = some c) {es:List E} {ns:List Int} (v:Inv u t c.2.length es ns) (h0:upL (es0 u c) es) (h:∀ (j:Nat) (a:A),c.2[j]? = some a→Vs u t l es j a):Zwm u t l c es=true:=by
 have cl:=(hu.ts c (mG0 hc)).n
 have q2:(es.length==c.2.length)=true:=by simpa using v.le
 have f0:(es0 u c)[0]? = some (ZfA u c):=by
  unfold es0
  rw [List.getElem?_set_self (by rw [List.length_replicate];omega)]
 obtain ⟨y,gy,ly⟩:=h0 0 _ f0
 have oy:=(v.ok y (mG0 gy)).env
 unfold Zwm
 rw [q2,gy,Option.getD_some,ZI4 (fun _=>ZLh u t hu hc) oy ly,Bool.true_and,Bool.true_and,Zpo]
 intro j d hd
 rw [Nat.zero_add]
 obtain ⟨a,b,ga,gb,la,lb⟩:=h j d hd
 have hj:=(List.getElem?_eq_some_iff.1 hd).1
 have hje:j<es.length:=by rw [v.le];exact hj
 have ge:es[j]? = some es[j]:=List.getElem?_eq_getElem hje
 obtain ⟨_,_,o3,_⟩:=Znh hu ht hl hn hc (v.ok _ (List.getElem_mem hje)) hj
 rw [ge,Option.getD_some] at la lb
 simp only [ge,Option.getD_some,ga,gb,ZI4 o3.nx (v.ok a (mG0 ga)).env la,ZI4 o3.el (v.ok b (mG0 gb)).env lb,Bool.true_and]
end
end
section
open Go.Proofs
section
variable {u:U} {t:Int} {l:List En} {c:C}
theorem ZN5 (hu:unitOK u) (ht:0≤t) (hl:tabOK l) (hn:l.length≤1000) (hc:u.2.2.2[t.toNat]? = some c) (st:List Int) :
  Inv u t c.2.length (endV u t l st c).1 (endV u t l st c).2.1∧upL (es0 u c) (endV u t l st c).1∧1≤(endV u t l st c).2.2.1∧(endV u t l st c).2.2.1≤100∧((endV u t l st c).2.2.2=true∨(endV u t l st c).2.2.1=100)∧((endV u t l st c).2.2.2=true→Zwm u t l c (endV u t l st c).1=true):=by
 obtain ⟨h1,h2,h3,h4,h5,h6,h7⟩:=ZXA (st:=st) hu ht hl hn hc 100 (es0 u c) (ns0 c) 0 false (ZSN hu hc)
 refine ⟨h1,h2,by have:=h6 rfl (by decide);show (1:Int)≤(runV u t l st c 100 (es0 u c) (ns0 c) 0 false).2.2.1;omega,by show (runV u t l st c 100 (es0 u c) (ns0 c) 0 false).2.2.1≤100;omega,?_,fun k=>ZZw hu ht hl hn hc h1 h2 (h7 rfl k)⟩
 rcases h5 with k | k
 ·exact .inl k
 ·exact .inr (by show (runV u t l st c 100 (es0 u c) (ns0 c) 0 false).2.2.1=100;omega)
end
end
abbrev ZoM:Type:=(Int×(List En)×(List E)×Bool×(List Int)×(List Int)×Int×(List C)×(List E)×(List En)×(List Ac)×(List Al)×Int×Bool)
abbrev ZoN:Type:=(Int×(List En)×(List E)×Int×(List Int)×(List Int)×Int×(List C)×(List E)×(List En)×(List Ac)×(List Al)×Int×Bool)
abbrev ZoO:Type:=(Int×(List En)×(List E)×(List Int)×(List Int)×Int×(List C)×(List E)×(List En)×(List Ac)×(List Al)×Int×Bool)
def ZFo:List Sh:=[.dat tU,.dat (.int .i64),.dat (.sl tEn),.dat (.sl tE)]
def ZnS:Nat→List Nat:=fun c=>bif c.beq 0 then [1,2,3,4,9,10] else [1,2,3,4,8,9]
def ZnT:Nat→List Nat:=fun c=>bif c.beq 0 then [1,2,3,4,11] else [1,2,3,4,8]
def Zia:List Con:=[⟨22,ZhB,ZmB⟩,⟨24,Zig,ZlG⟩,⟨35,Zsk,ZBF⟩,⟨36,Zo9,ZxO⟩,⟨37,Zsi,ZBD⟩,⟨26,ZhC,ZmC⟩]
def W1:StS:=⟨[(1,.int .i64),(2,.sl tEn),(3,.sl tE),(4,.ptr 0 0),(9,.ptr 1 0),(10,.int .i64)],[(0,.box [.sl (.int .i64),.sl (.int .i64),.int .i64,.sl tC]),(1,.box [.sl tE,.sl tEn,.sl tAc,.sl tAl,.int .i64,.bool])],2⟩
def Kr:StS:=⟨[(1,.int .i64),(2,.sl tEn),(3,.sl tE),(4,.ptr 0 0),(8,.undef),(9,.ptr 1 0)],[(0,.box [.sl (.int .i64),.sl (.int .i64),.int .i64,.sl tC]),(1,.box [.sl tE,.sl tEn,.sl tAc,.sl tAl,.int .i64,.bool])],2⟩
def Ks:StS:=⟨[(1,.int .i64),(2,.sl tEn),(3,.sl tE),(4,.ptr 0 0),(8,.bool),(9,.ptr 1 0)],[(0,.box [.sl (.int .i64),.sl (.int .i64),.int .i64,.sl tC]),(1,.box [.sl tE,.sl tEn,.sl tAc,.sl tAl,.int .i64,.bool])],2⟩
abbrev Jl:=ZoN
def ZvZ:StD W1→Jl:=fun ((a,b,c,_,_,d,_),((e,f,g,h,_),(i,j,k,l,m,n,_),_))=>(a,b,c,d,e,f,g,h,i,j,k,l,m,n)
def Zwg:Jl→StD W1:=fun (a,b,c,d,e,f,g,h,i,j,k,l,m,n)=>((a,b,c,(),(),d,()),((e,f,g,h,()),(i,j,k,l,m,n,()),()))
abbrev Qg:=ZoO
def ZPj:StD Kr→Qg:=fun ((a,b,c,_,_,_,_),((d,e,f,g,_),(h,i,j,k,l,m,_),_))=>(a,b,c,d,e,f,g,h,i,j,k,l,m)
def Zc1:Qg→StD Kr:=fun (a,b,c,d,e,f,g,h,i,j,k,l,m)=>((a,b,c,(),(),(),()),((d,e,f,g,()),(h,i,j,k,l,m,()),()))
abbrev Qh:=ZoM
def ZPk:StD Ks→Qh:=fun ((a,b,c,_,d,_,_),((e,f,g,h,_),(i,j,k,l,m,n,_),_))=>(a,b,c,d,e,f,g,h,i,j,k,l,m,n)
def Zc2:Qh→StD Ks:=fun (a,b,c,d,e,f,g,h,i,j,k,l,m,n)=>((a,b,c,(),d,(),()),((e,f,g,h,()),(i,j,k,l,m,n,()),()))
def KS (s1:Int) (s2:List En) (s3:List E) (s10:Int) (b0 b0_1:List Int) (b0_2:Int) (b0_3:List C) (b1:List E) (b1_1:List En) (b1_2:List Ac) (b1_3:List Al) (b1_4:Int) (b1_5:Bool):Option (ZoN⊕(ZoO⊕ZoM)):=bif decide (s10<(b1.length:Int)) then bif decide (0≤s10) then Za b1[s10.toNat]? none fun d17=>bif d17.1 then bif decide (0≤s10) then Za b1[s10.toNat]? none fun d18=>Za (Yb ((b0,b0_1,b0_2,b0_3),s1,d18,())) none fun d19=>bif !d19 then some (.inr (.inr (s1,s2,s3,false,b0,b0_1,b0_2,b0_3,b1,b1_1,b1_2,b1_3,b1_4,b1_5))) else some (.inl (s1,s2,s3,IntKind.i64.wrap (s10+1),b0,b0_1,b0_2,b0_3,b1,b1_1,b1_2,b1_3,b1_4,b1_5)) else none else some (.inl (s1,s2,s3,IntKind.i64.wrap (s10+1),b0,b0_1,b0_2,b0_3,b1,b1_1,b1_2,b1_3,b1_4,b1_5)) else none else some (.inr (.inl (s1,s2,s3,b0,b0_1,b0_2,b0_3,b1,b1_1,b1_2,b1_3,b1_4,b1_5)))
def ZmE:Jl→Option (Jl⊕(Qg⊕Qh)):=fun (a,b,c,d,e,f,g,h,i,j,k,l,m,n)=>KS a b c d e f g h i j k l m n
def Yc (x:Jl):Option (Qg⊕Qh):=Zh ZmE Zl x
def ZoD:Nat→Tm→Prog (Nat×Tm):=(varP 0 (fun T h=>(rdS W1 T h).map ZvZ) Yc (fun y=>.alt y (altE 2 Kr Zc1) (altE 1 Ks Zc2)) (fun _ _=>.fail))
def ZgE:Lpc:=⟨11,0,117,(fun base T=>.norm base (ZnS 0) T (ZoD base)),by kernel_rfl,by kernel_rfl,(loopU Zia [] 40 1048576 8 (keep:=ZnS) (q:=ZoD) (by kernel_rfl) (Zv (s:=W1) (un:=Zwg) (by rfl) (fun _=>rfl) (ZW (Zn (s:=Kr) (un:=Zc1) (flat:=ZPj) (by rfl) (fun _=>rfl)) (Zn (s:=Ks) (un:=Zc2) (flat:=ZPk) (by rfl) (fun _=>rfl))) (step:=ZmE) (fun _=>by kernel_rfl) (fun _ _ e=>⟨_,e⟩) (ZV (Zm 2 Kr Zc1) (Zm 1 Ks Zc2)) (ZB.fail _ _)))⟩
abbrev ZUh:=cxU Zia [ZgE] 40 1048576
def W2:StS:=⟨[(1,.int .i64),(2,.sl tEn),(3,.sl tE),(4,.ptr 0 0),(11,.int .i64)],[(0,.box [.sl (.int .i64),.sl (.int .i64),.int .i64,.sl tC])],1⟩
def Kt:StS:=⟨[(1,.int .i64),(2,.sl tEn),(3,.sl tE),(4,.ptr 0 0),(8,.undef)],[(0,.box [.sl (.int .i64),.sl (.int .i64),.int .i64,.sl tC])],1⟩
def Ku:StS:=⟨[(1,.int .i64),(2,.sl tEn),(3,.sl tE),(4,.ptr 0 0),(8,.bool)],[(0,.box [.sl (.int .i64),.sl (.int .i64),.int .i64,.sl tC])],1⟩
abbrev Jm:=(Int×(List En)×(List E)×Int×(List Int)×(List Int)×Int×(List C))
def Zv0:StD W2→Jm:=fun ((a,b,c,_,d,_),((e,f,g,h,_),_))=>(a,b,c,d,e,f,g,h)
def Zwh:Jm→StD W2:=fun (a,b,c,d,e,f,g,h)=>((a,b,c,(),d,()),((e,f,g,h,()),()))
abbrev Qi:=(Int×(List En)×(List E)×(List Int)×(List Int)×Int×(List C))
def ZPl:StD Kt→Qi:=fun ((a,b,c,_,_,_),((d,e,f,g,_),_))=>(a,b,c,d,e,f,g)
def Zc3:Qi→StD Kt:=fun (a,b,c,d,e,f,g)=>((a,b,c,(),(),()),((d,e,f,g,()),()))
abbrev Qj:=(Int×(List En)×(List E)×Bool×(List Int)×(List Int)×Int×(List C))
def ZPm:StD Ku→Qj:=fun ((a,b,c,_,d,_),((e,f,g,h,_),_))=>(a,b,c,d,e,f,g,h)
def Zc4:Qj→StD Ku:=fun (a,b,c,d,e,f,g,h)=>((a,b,c,(),d,()),((e,f,g,h,()),()))
def KU (s1:Int) (s2:List En) (s3:List E) (s11:Int) (b0 b0_1:List Int) (b0_2:Int) (b0_3:List C):Option ((Int×(List En)×(List E)×Int×(List Int)×(List Int)×Int×(List C))⊕((Int×(List En)×(List E)×(List Int)×(List Int)×Int×(List C))⊕(Int×(List En)×(List E)×Bool×(List Int)×(List Int)×Int×(List C)))):=bif decide (s11<(s3.length:Int)) then bif decide (0≤s11) then Za s3[s11.toNat]? none fun d11=>bif d11.1 then bif decide (0≤s11) then Za s3[s11.toNat]? none fun d12=>Za (Yb ((b0,b0_1,b0_2,b0_3),s1,d12,())) none fun d13=>bif !d13 then Za (Z0 ()) none fun d14=>some (.inr (.inr (s1,s2,s3,d14,b0,b0_1,b0_2,b0_3))) else some (.inl (s1,s2,s3,IntKind.i64.wrap (s11+1),b0,b0_1,b0_2,b0_3)) else none else some (.inl (s1,s2,s3,IntKind.i64.wrap (s11+1),b0,b0_1,b0_2,b0_3)) else none else some (.inr (.inl (s1,s2,s3,b0,b0_1,b0_2,b0_3)))
def ZmF:Jm→Option (Jm⊕(Qi⊕Qj)):=fun (a,b,c,d,e,f,g,h)=>KU a b c d e f g h
def Qb (x:Jm):Option (Qi⊕Qj):=Zh ZmF Zl x
def ZoE:Nat→Tm→Prog (Nat×Tm):=(varP 0 (fun T h=>(rdS W2 T h).map Zv0) Qb (fun y=>.alt y (altE 4 Kt Zc3) (altE 1 Ku Zc4)) (fun _ _=>.fail))
def Zyl:Lpc:=⟨11,2,117,(fun base T=>.norm base (ZnT 0) T (ZoE base)),by kernel_rfl,by kernel_rfl,(loopU Zia [ZgE] 40 1048576 8 (keep:=ZnT) (q:=ZoE) (by kernel_rfl) (Zv (s:=W2) (un:=Zwh) (by rfl) (fun _=>rfl) (ZW (Zn (s:=Kt) (un:=Zc3) (flat:=ZPl) (by rfl) (fun _=>rfl)) (Zn (s:=Ku) (un:=Zc4) (flat:=ZPm) (by rfl) (fun _=>rfl))) (step:=ZmF) (fun _=>by kernel_rfl) (fun _ _ e=>⟨_,e⟩) (ZV (Zm 4 Kt Zc3) (Zm 1 Ku Zc4)) (ZB.fail _ _)))⟩
def Zn6 (a0:U) (a1:Int) (a2:List En) (a3:List E):Option Bool:=Za (Kh (a0,a1,a2,())) none fun d7=>bif !d7 then some true else bif decide ((a3.length:Int)>60) then some true else Za (Ya (a0,a1,a2,())) none fun d8=>bif decide (0≤a1) then Za a0.2.2.2[a1.toNat]? none fun d9=>bif (List.length d8.1:Int) !=(List.length d9.2:Int) then some false else Za (Yc (a1,a2,a3,0,a0.1,a0.2.1,a0.2.2.1,a0.2.2.2,d8)) none fun d10=>Sum.elim (fun e11=>bif e11.2.2.2.2.2.2.2.2.2.2.2.2 then Za (KA ((e11.2.2.2.1,e11.2.2.2.2.1,e11.2.2.2.2.2.1,e11.2.2.2.2.2.2.1),e11.1,e11.2.2.2.2.2.2.2.1,e11.2.1,())) none fun d12=>bif !d12 then some false else Za (K9 ((e11.2.2.2.1,e11.2.2.2.2.1,e11.2.2.2.2.2.1,e11.2.2.2.2.2.2.1),e11.1,e11.2.2.2.2.2.2.2.1,e11.2.1,())) none fun d13=>bif !d13 then some false else Za (Qb (e11.1,e11.2.1,e11.2.2.1,0,e11.2.2.2.1,e11.2.2.2.2.1,e11.2.2.2.2.2.1,e11.2.2.2.2.2.2.1)) none fun d14=>Sum.elim (fun e15=>Za (K9 (e15.2.2.2,e15.1,e15.2.2.1,e15.2.1,())) none fun d16=>Za (KA (e15.2.2.2,e15.1,e15.2.2.1,e15.2.1,())) none fun d17=>bif d16==d17 then Za (Z0 ()) none fun d18=>some d18 else some false) (fun e15=>some e15.2.2.2.1) d14 else Za (Qb (e11.1,e11.2.1,e11.2.2.1,0,e11.2.2.2.1,e11.2.2.2.2.1,e11.2.2.2.2.2.1,e11.2.2.2.2.2.2.1)) none fun d12=>Sum.elim (fun e13=>Za (K9 (e13.2.2.2,e13.1,e13.2.2.1,e13.2.1,())) none fun d14=>Za (KA (e13.2.2.2,e13.1,e13.2.2.1,e13.2.1,())) none fun d15=>bif d14==d15 then Za (Z0 ()) none fun d16=>some d16 else some false)
 (fun e13=>some e13.2.2.2.1) d12) (fun e11=>some e11.2.2.2.1) d10 else none
def ZuS (x:(U×(Int×((List En)×((List E)×Unit))))):Option Bool:=Zn6 x.1 x.2.1 x.2.2.1 x.2.2.2.1
def ZFs:=conP true ZFo (.dat .bool) ZuS
theorem ZZf:Zf Tryz.prog 11 ZFs:=Ze (calU Zia [ZgE,Zyl] 40 1048576 8 11) true (by rfl) (by rfl) (fun x r e=>(Zk _ _ _ _ _ _ _).trans ((show _=ZuS x by kernel_rfl).trans e)) (.inl rfl)
def WC (s1:Int) (s2:List En) (s3:List E) (b0 b0_1:List Int) (b0_2:Int) (b0_3:List C) (b1_1:List En) (b1_2:List Ac) (b1_3:List Al) (b1_4:Int) (b1_5:Bool) (b1:List E) (i:Nat)  (d:E):Option (Unit⊕(Qg⊕Qh)):=
 bif d.1 then
  Za (Yb ((b0,b0_1,b0_2,b0_3),s1,d,())) (none) fun d19=>
  bif !d19 then
  some (.inr (.inr (s1,s2,s3,false,b0,b0_1,b0_2,b0_3,b1,b1_1,b1_2,b1_3,b1_4,b1_5)))
 else some (.inl ())
 else some (.inl ())
def Zmv (s1:Int) (s2:List En) (s3:List E) (b0 b0_1:List Int) (b0_2:Int) (b0_3:List C) (b1_1:List En) (b1_2:List Ac) (b1_3:List Al) (b1_4:Int) (b1_5:Bool) (b1:List E):Option (Qg⊕Qh):=
 some (.inl (s1,s2,s3,b0,b0_1,b0_2,b0_3,b1,b1_1,b1_2,b1_3,b1_4,b1_5))
abbrev Zwd (s1:Int) (s2:List En) (s3:List E) (b0 b0_1:List Int) (b0_2:Int) (b0_3:List C) (b1_1:List En) (b1_2:List Ac) (b1_3:List Al) (b1_4:Int) (b1_5:Bool) (b1:List E) (i:Nat) (s:Unit):Jl:=(s1,s2,s3,(i:Int),b0,b0_1,b0_2,b0_3,b1,b1_1,b1_2,b1_3,b1_4,b1_5)
def ZeH (s1:Int) (s2:List En) (s3:List E) (b0 b0_1:List Int) (b0_2:Int) (b0_3:List C) (b1_1:List En) (b1_2:List Ac) (b1_3:List Al) (b1_4:Int) (b1_5:Bool) (b1:List E) (s:Unit):Option (Qg⊕Qh):=Zp (fun i s d=>WC s1 s2 s3 b0 b0_1 b0_2 b0_3 b1_1 b1_2 b1_3 b1_4 b1_5 b1 i  d) (fun s=>Zmv s1 s2 s3 b0 b0_1 b0_2 b0_3 b1_1 b1_2 b1_3 b1_4 b1_5 b1 ) 0 b1 s
theorem Zv8 (s1:Int) (s2:List En) (s3:List E) (b0 b0_1:List Int) (b0_2:Int) (b0_3:List C) (b1_1:List En) (b1_2:List Ac) (b1_3:List Al) (b1_4:Int) (b1_5:Bool) (b1:List E) (s:Unit) (hl:b1.length<9223372036854775807):Yc (s1,s2,s3,0,b0,b0_1,b0_2,b0_3,b1,b1_1,b1_2,b1_3,b1_4,b1_5)=ZeH s1 s2 s3 b0 b0_1 b0_2 b0_3 b1_1 b1_2 b1_3 b1_4 b1_5 b1 s:=by
 unfold Yc ZeH
 refine Zs b1 (Zwd s1 s2 s3 b0 b0_1 b0_2 b0_3 b1_1 b1_2 b1_3 b1_4 b1_5 b1) _ _ ?_ ?_ s (by unfold Zl;omega)
 ·intro i s d hi hd
  have e1:decide ((i:Int)<(b1.length:Int))=true:=dT0 (by omega)
  have e2:decide (0≤(i:Int))=true:=dT0 (by omega)
  have e3:Int.toNat (i:Int)=i:=tN0 i
  have e4:=Zq hi (Nat.le_of_lt hl)
  show KS (s1) (s2) (s3) ((i:Int)) (b0) (b0_1) (b0_2) (b0_3) (b1) (b1_1) (b1_2) (b1_3) (b1_4) (b1_5)=upd _ (WC s1 s2 s3 b0 b0_1 b0_2 b0_3 b1_1 b1_2 b1_3 b1_4 b1_5 b1 i  d)
  unfold KS WC
  simp only [e1,e2,e3,e4,hd,cond_true,cond_false,Zb,ZC,ZF,ZD,ZI,ZJ,ZE]
 ·intro s
  have e1:decide ((b1.length:Int)<(b1.length:Int))=false:=dF0 (by omega)
  show KS (s1) (s2) (s3) ((b1.length:Int)) (b0) (b0_1) (b0_2) (b0_3) (b1) (b1_1) (b1_2) (b1_3) (b1_4) (b1_5)=_
  unfold KS Zmv
  rw [e1]
  rfl
def Qp (s1:Int) (s2:List En) (b0 b0_1:List Int) (b0_2:Int) (b0_3:List C) (s3:List E) (i:Nat)  (d:E):Option (Unit⊕(Qi⊕Qj)):=
 bif d.1 then
  Za (Yb ((b0,b0_1,b0_2,b0_3),s1,d,())) (none) fun d13=>
  bif !d13 then
  Za (Z0 ()) (none) fun d14=>
  some (.inr (.inr (s1,s2,s3,d14,b0,b0_1,b0_2,b0_3)))
 else some (.inl ())
 else some (.inl ())
def ZeC (s1:Int) (s2:List En) (b0 b0_1:List Int) (b0_2:Int) (b0_3:List C) (s3:List E):Option (Qi⊕Qj):=
 some (.inl (s1,s2,s3,b0,b0_1,b0_2,b0_3))
abbrev Zwe (s1:Int) (s2:List En) (b0 b0_1:List Int) (b0_2:Int) (b0_3:List C) (s3:List E) (i:Nat) (s:Unit):Jm:=(s1,s2,s3,(i:Int),b0,b0_1,b0_2,b0_3)
def ZeI (s1:Int) (s2:List En) (b0 b0_1:List Int) (b0_2:Int) (b0_3:List C) (s3:List E) (s:Unit):Option (Qi⊕Qj):=Zp (fun i s d=>Qp s1 s2 b0 b0_1 b0_2 b0_3 s3 i  d) (fun s=>ZeC s1 s2 b0 b0_1 b0_2 b0_3 s3 ) 0 s3 s
theorem Zv9 (s1:Int) (s2:List En) (b0 b0_1:List Int) (b0_2:Int) (b0_3:List C) (s3:List E) (s:Unit) (hl:s3.length<9223372036854775807):Qb (s1,s2,s3,0,b0,b0_1,b0_2,b0_3)=ZeI s1 s2 b0 b0_1 b0_2 b0_3 s3 s:=by
 unfold Qb ZeI
 refine Zs s3 (Zwe s1 s2 b0 b0_1 b0_2 b0_3 s3) _ _ ?_ ?_ s (by unfold Zl;omega)
 ·intro i s d hi hd
  have e1:decide ((i:Int)<(s3.length:Int))=true:=dT0 (by omega)
  have e2:decide (0≤(i:Int))=true:=dT0 (by omega)
  have e3:Int.toNat (i:Int)=i:=tN0 i
  have e4:=Zq hi (Nat.le_of_lt hl)
  show KU (s1) (s2) (s3) ((i:Int)) (b0) (b0_1) (b0_2) (b0_3)=upd _ (Qp s1 s2 b0 b0_1 b0_2 b0_3 s3 i  d)
  unfold KU Qp
  simp only [e1,e2,e3,e4,hd,cond_true,cond_false,Zb,ZC,ZF,ZD,ZI,ZJ,ZE]
 ·intro s
  have e1:decide ((s3.length:Int)<(s3.length:Int))=false:=dF0 (by omega)
  show KU (s1) (s2) (s3) ((s3.length:Int)) (b0) (b0_1) (b0_2) (b0_3)=_
  unfold KU ZeC
  rw [e1]
  rfl
theorem ZZL (u:U) (t:Int) (e:E) (hu:unitOK u) (h0:0≤t) (ht:t<(u.2.2.2.length:Int)) (he:envOK u t e):WX u t e=some true:=by
 obtain ⟨c,hc,hv⟩:=he.c
 have co:=hu.ts c (mG0 hc)
 unfold WX
 rw [show decide (0≤t)=true from dT0 h0,hc]
 simp only [cond_true,Zb,ZZ8]
 have h2:=he.g
 have h3:=he.a
 have hm:=he.must
 have hy:=he.may
 rw [dT0 hv,dT0 (show (e.2.2.1.length:Int)=(u.1.length:Int) by omega),dT0 (show (e.2.2.2.1.length:Int)=(u.2.1.length:Int) by omega),dF0 (show ¬ e.2.2.2.2.1<0 by omega),dF0 (show ¬ e.2.2.2.2.2<0 by omega),dF0 (show ¬ e.2.2.2.2.1≥2147483648 by omega),dF0 (show ¬ e.2.2.2.2.2≥2147483648 by omega)]
 have b1:=co.v
 have b2:=hu.g
 have b3:=hu.a
 simp only [List.nil_append,List.length_append,List.length_nil,Nat.zero_add]
 rw [show decide ((e.2.1.length+1)*16≤lim)=true from dT0 (by unfold lim;omega),show decide ((e.2.1.length+e.2.2.1.length+1)*16≤lim)=true from dT0 (by unfold lim;omega),show decide ((e.2.1.length+e.2.2.1.length+e.2.2.2.1.length+1)*16≤lim)=true from dT0 (by unfold lim;omega)]
 simp only [Bool.not_true,cond_false,cond_true]
 rw [ZPi _ (by simp only [List.length_append];omega)]
 have:((e.2.1++e.2.2.1++e.2.2.2.1).all fun x=>isB x && !Zd x)=true:=List.all_eq_true.2 fun x hx=>by
  have:=he.v x hx
  rw [this.1,this.2];rfl
 rw [this]
 rfl
theorem ZXN {α Y:Type} {P:α→Prop} {f:Nat→Unit→α→Option (Unit⊕Y)} {fin:Unit→Option Y} {a b:Y} (hf:fin ()=some a) (h:∀ j d,f j () d=some (.inr b)∨(f j () d=some (.inl ())∧P d)):∀ (r:List α) (i:Nat),Zp f fin i r ()=some b∨(Zp f fin i r ()=some a∧∀ d∈r,P d)
 | [],i=>.inr ⟨hf,fun d k=>nomatch k⟩
 | d::r,i=>by
  rcases h i d with k | ⟨k,p⟩
  ·exact .inl (by simp only [Zp,k])
  ·rw [Qq k]
   rcases ZXN hf h r (i+1) with q | ⟨q,q'⟩
   ·exact .inl q
   ·refine .inr ⟨q,fun x hx=>?_⟩
    rcases List.mem_cons.1 hx with rfl | hx
    ·exact p
    ·exact q' x hx
theorem Z6n (u:U) (t:Int) (l:List En) (e:List E) (hs:sizeU u) (hl:l.length<9223372036854775807) (hle:e.length<9223372036854775807):Zn6 u t l e=some true:=by
 unfold Zn6
 obtain ⟨b,h1,h2⟩:=Zg6 u t l hs hl
 simp only [Kh,h1,Zb]
 cases b
 ·rfl
 obtain ⟨hu,ht,hn,hk⟩:=h2 rfl
 by_cases h60:(e.length:Int)>60
 ·rw [dT0 h60];rfl
 obtain ⟨c,hc⟩:=ZNi ht
 have cl:=(hu.ts c (mG0 hc)).n
 obtain ⟨r1,r2,v,g⟩:=ZnL hu ht.1 hk (by omega) hc
 obtain ⟨e1,e2,e3,e4,e5,e6⟩:=ZN5 hu ht.1 hk (by omega) hc (Zt u)
 have k1:=ZDo hu ht.1 hk (by omega) hc (fun x hx=>(e1.ok x hx).env)
 have e0:decide (0≤t)=true:=dT0 ht.1
 have ve:=v.le
 have ln:(((endV u t l (Zt u) c).1.length:Int) !=(c.2.length:Int))=false:=by simp;omega
 simp only [Bool.not_true,cond_false,dF0 h60,Ya,r1,Zb,e0,cond_true,hc]
 unfold resV
 generalize (endV u t l (Zt u) c).1=es at *
 generalize gatE u t l (Zt u) c=ga at *
 generalize (endV u t l (Zt u) c).2.2.1=x at *
 generalize (endV u t l (Zt u) c).2.2.2=y at *
 obtain ⟨st,ac,al⟩:=ga
 simp only [ln,cond_false]
 have q1:=Zv8 t l e u.1 u.2.1 u.2.2.1 u.2.2.2 st ac al x y es () (by omega)
 unfold ZeH at q1
 rw [Zfe es 0 fun j d hd=>?_] at q1
 ·have q1:Yc (t,l,e,0,u.1,u.2.1,u.2.2.1,u.2.2.2,es,st,ac,al,x,y)=some (.inl (t,l,e,u.1,u.2.1,u.2.2.1,u.2.2.2,es,st,ac,al,x,y)):=q1
  have q2:=Zv9 t l u.1 u.2.1 u.2.2.1 u.2.2.2 e () (by omega)
  unfold ZeI at q2
  have q3:Qb (t,l,e,0,u.1,u.2.1,u.2.2.1,u.2.2.2)=some (.inr (t,l,e,true,u.1,u.2.1,u.2.2.1,u.2.2.2))∨(Qb (t,l,e,0,u.1,u.2.1,u.2.2.1,u.2.2.2)=some (.inl (t,l,e,u))∧∀ d∈e,d.1=true→envOK u t d):=by
   have go:=ZXN (P:=fun d:E=>d.1=true→envOK u t d) (f:=fun i s d=>Qp t l u.1 u.2.1 u.2.2.1 u.2.2.2 e i d) (fin:=fun s=>ZeC t l u.1 u.2.1 u.2.2.1 u.2.2.2 e) (a:=.inl (t,l,e,u)) (b:=.inr (t,l,e,true,u.1,u.2.1,u.2.2.1,u.2.2.2)) rfl (fun j d=>by
    cases d1:d.1
    ·exact .inr ⟨by unfold Qp;rw [d1];rfl,fun k=>by cases k⟩
    ·obtain ⟨b,f1,f2⟩:=ZTb u t d hu ht.1 ht.2
     cases b
     ·refine .inl ?_
      unfold Qp
      have f1:WX (u.1,u.2.1,u.2.2.1,u.2.2.2) t d=some false:=f1
      simp only [d1,cond_true,Yb,f1,Zb,Bool.not_false,Z0,ZAT]
     ·refine .inr ⟨?_,fun _=>f2 rfl⟩
      unfold Qp
      have f1:WX (u.1,u.2.1,u.2.2.1,u.2.2.2) t d=some true:=f1
      simp only [d1,cond_true,Yb,f1,Zb,Bool.not_true,cond_false])
   rcases go e 0 with k | ⟨k,k'⟩
   ·exact .inl (q2.trans k)
   ·exact .inr ⟨q2.trans k,k'⟩
  have fin:(Za (Qb (t,l,e,0,u.1,u.2.1,u.2.2.1,u.2.2.2)) none fun d14=>Sum.elim
    (fun e15=>Za (K9 (e15.2.2.2,e15.1,e15.2.2.1,e15.2.1,())) none fun d16=>Za (KA (e15.2.2.2,e15.1,e15.2.2.1,e15.2.1,())) none fun d17=>
     bif d16==d17 then Za (Z0 ()) none fun d18=>some d18 else some false) (fun e15=>some e15.2.2.2.1) d14)=some true:=by
   rcases q3 with k | ⟨k,k'⟩
   ·rw [k];rfl
   ·obtain ⟨c1,c2⟩:=ZDo hu ht.1 hk (by omega) hc k'
    rw [k]
    simp only [Zb,Sum.elim_inl,K9,c1,KA,c2,beq_self_eq_true,cond_true,Z0,ZAT]
  simp only [q1,Zb,Sum.elim_inl]
  cases y
  ·exact fin
  ·have kc:=e6 rfl
   have c1:Zfi (u.1,u.2.1,u.2.2.1,u.2.2.2) t es l=_:=k1.2
   have c2:ZmV (u.1,u.2.1,u.2.2.1,u.2.2.2) t es l=_:=k1.1
   simp only [cond_true,KA,c1,kc,Zb,Bool.not_true,cond_false,K9,c2]
   exact fin
 ·rw [Nat.zero_add]
  unfold WC
  cases d1:d.1
  ·rfl
  ·have f1:WX (u.1,u.2.1,u.2.2.1,u.2.2.2) t d=some true:=ZZL u t d hu ht.1 ht.2 ((v.ok d (mG0 hd)).env d1)
   simp only [cond_true,Yb,f1,Zb,Bool.not_true,cond_false]
end
end Go.Proofs.YtbdcblpjemmipaaGreat.Ex
