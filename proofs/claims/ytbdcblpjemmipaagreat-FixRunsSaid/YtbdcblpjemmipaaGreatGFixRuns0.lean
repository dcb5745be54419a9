/- A part of the proofs of what is known of threads: GFixRuns0. -/
import Derived.Test.YtbdcblpjemmipaaGreatGF
import Derived.Test.YtbdcblpjemmipaaGreatGG
import Derived.Test.YtbdcblpjemmipaaGreatGH
import Derived.Test.YtbdcblpjemmipaaGreatGD
import Derived.Test.YtbdcblpjemmipaaGreatGI
namespace Go.Proofs.YtbdcblpjemmipaaGreat.Ex
open Go.Proofs
set_option maxRecDepth 100000
set_option maxHeartbeats 4000000
set_option linter.unusedVariables false
set_option linter.unusedSimpArgs false
set_option linter.unusedSectionVars false
noncomputable section
section
open Go.Proofs Go.Proofs.YtbdcblpjemmipaaGreat
def ZJH:List Sh:=[.dat (.sl (.int .i64)),.dat (.int .i64)]
def ZqL:Nat→List Nat:=fun c=>bif c.beq 0 then [0,1,5] else [0,1,5]
def ZvD:List Con:=[⟨31,ZlP,Zqp⟩]
def WI:StS:=⟨[(0,.sl (.int .i64)),(1,.int .i64),(5,.int .i64)],[],0⟩
def Zai:StS:=⟨[(0,.sl (.int .i64)),(1,.int .i64),(5,.int .i64)],[],0⟩
def ZvX:StD WI→WF:=fun ((a,b,c,_),_)=>(a,b,c)
def Zot:WF→StD WI:=fun (a,b,c)=>((a,b,c,()),())
def ZFA:StD Zai→YU:=fun ((a,b,c,_),_)=>(a,b,c)
def ZlK:YU→StD Zai:=fun (a,b,c)=>((a,b,c,()),())
theorem ZKH (x:WF):rdX (cxU ZvD [] 40 1048576) keeps 8 ⟨82,51,keeps 82,0⟩ 0 (bodyX 82 0) 0 ZqL (sT WI (Zot x)) (sH WI (Zot x)) (rdO (fun T h=>(rdS WI T h).map ZvX) (getE 2 Zai ZFA))=Zop x:=by kernel_rfl
def ZBC:Nat→Tm→Prog (Nat×Tm):=(varP 0 (fun T h=>(rdS WI T h).map ZvX) Zil (altE 2 Zai ZlK) (fun _ _=>.fail))
def ZzH:Lpc:=⟨82,0,51,(fun base T=>.norm base (ZqL 0) T (ZBC base)),by kernel_rfl,by kernel_rfl,(loopU ZvD [] 40 1048576 8 (keep:=ZqL) (q:=ZBC) (by kernel_rfl) (Zp (s:=WI) (un:=Zot) (by rfl) (fun _=>rfl) (Zi (s:=Zai) (un:=ZlK) (by rfl) (fun _=>rfl)) (step:=Zop) ZKH (fun _ _ e=>⟨_,e⟩) (Zh 2 Zai ZlK) (ZA.fail _ _)))⟩
theorem ZUP (a0:List Int) (a1:Int):evGX (cxU ZvD [ZzH] 40 1048576) keeps 8 82 ZJH (.dat (.sl (.int .i64))) ((a0,a1,()):((List Int)×(Int×Unit)))=Zdg a0 a1:=by kernel_rfl
def ZJX:List AV→Prog AV:=conP true ZJH (.dat (.sl (.int .i64))) V1
theorem ZVj:Zd Tryz.prog 82 ZJX:=Zc (calU ZvD [ZzH] 40 1048576 8 82) true (by rfl) (by rfl) (fun x r e=>(Zg _ _ _ _ _ _ _).trans ((ZUP x.1 x.2.1).trans e)) (.inl rfl)
end
section
open Go.Proofs Go.Proofs.YtbdcblpjemmipaaGreat
def ZDo:List Sh:=[.dat (.int .i64),.dat (.int .i64)]
def ZIc:List Con:=[]
theorem ZQv (a0 a1:Int):evGX (cxU ZIc [] 40 1048576) keeps 8 166 ZDo (.dat .bool) ((a0,a1,()):(Int×(Int×Unit)))=ZnR a0 a1:=by kernel_rfl
def ZTi (x:Int×(Int×Unit)):Option Bool:=ZnR x.1 x.2.1
def ZDF:List AV→Prog AV:=conP true ZDo (.dat .bool) ZTi
theorem ZQY:Zd Tryz.prog 166 ZDF:=Zc (calU ZIc [] 40 1048576 8 166) true (by rfl) (by rfl) (fun x r e=>(Zg _ _ _ _ _ _ _).trans ((ZQv x.1 x.2.1).trans e)) (.inl rfl)
end
section
open Go.Proofs Go.Proofs.YtbdcblpjemmipaaGreat
def ZHw:List Sh:=[.dat tI,.dat tI]
def ZK3:List Con:=[⟨47,Qr,QV⟩]
theorem ZSD (a0 a1:I):evGX (cxU ZK3 [] 40 1048576) keeps 8 19 ZHw (.dat tI) ((a0,a1,()):(I×(I×Unit)))=Zvm a0 a1:=by kernel_rfl
def ZaB:List AV→Prog AV:=conP true ZHw (.dat tI) ZD
theorem Zcp:Zd Tryz.prog 19 ZaB:=Zc (calU ZK3 [] 40 1048576 8 19) true (by rfl) (by rfl) (fun x r e=>(Zg _ _ _ _ _ _ _).trans ((ZSD x.1 x.2.1).trans e)) (.inl rfl)
end
section
open Go.Proofs Go.Proofs.YtbdcblpjemmipaaGreat
def ZDf:List Sh:=[.dat (.sl tEn),.dat (.int .i64),.dat .bool,.dat (.int .i64),.dat (.int .i64)]
def Zmk:Nat→List Nat:=fun c=>bif c.beq 0 then [0,1,2,3,4,10,11,12] else [10,11]
def ZqA:List Con:=[⟨95,ZaC,Zcq⟩,⟨166,ZDF,ZQY⟩,⟨19,ZaB,Zcp⟩]
def KZ:StS:=⟨[(0,.sl tEn),(1,.int .i64),(2,.bool),(3,.int .i64),(4,.int .i64),(10,.ptr 0 0),(11,.ptr 1 0),(12,.int .i64)],[(0,.box [.int .i64,.int .i64]),(1,.box [.int .i64,.int .i64])],2⟩
def Yr:StS:=⟨[(10,.ptr 0 0),(11,.ptr 1 0)],[(0,.box [.int .i64,.int .i64]),(1,.box [.int .i64,.int .i64])],2⟩
def Zq4:StD KZ→KG:=fun ((a,b,c,d,e,_,_,f,_),((g,h,_),(i,j,_),_))=>(a,b,c,d,e,f,g,h,i,j)
def ZjQ:KG→StD KZ:=fun (a,b,c,d,e,f,g,h,i,j)=>((a,b,c,d,e,(),(),f,()),((g,h,()),(i,j,()),()))
def ZAD:StD Yr→Je:=fun ((_,_,_),((a,b,_),(c,d,_),_))=>(a,b,c,d)
def Zgy:Je→StD Yr:=fun (a,b,c,d)=>(((),(),()),((a,b,()),(c,d,()),()))
theorem ZEF (x:KG):rdX (cxU ZqA [] 40 1048576) keeps 8 ⟨117,52,keeps 117,0⟩ 0 (bodyX 117 0) 0 Zmk (sT KZ (ZjQ x)) (sH KZ (ZjQ x)) (rdO (fun T h=>(rdS KZ T h).map Zq4) (getE 2 Yr ZAD))=Zjs x:=by kernel_rfl
def Zww:Nat→Tm→Prog (Nat×Tm):=(varP 0 (fun T h=>(rdS KZ T h).map Zq4) ZbH (altE 2 Yr Zgy) (fun _ _=>.fail))
def Zud:Lpc:=⟨117,0,52,(fun base T=>.norm base (Zmk 0) T (Zww base)),by kernel_rfl,by kernel_rfl,(loopU ZqA [] 40 1048576 8 (keep:=Zmk) (q:=Zww) (by kernel_rfl) (Zp (s:=KZ) (un:=ZjQ) (by rfl) (fun _=>rfl) (Zi (s:=Yr) (un:=Zgy) (by rfl) (fun _=>rfl)) (step:=Zjs) ZEF (fun _ _ e=>⟨_,e⟩) (Zh 2 Yr Zgy) (ZA.fail _ _)))⟩
theorem ZQm (a0:List En) (a1:Int) (a2:Bool) (a3 a4:Int):evGX (cxU ZqA [Zud] 40 1048576) keeps 8 117 ZDf (.dat tI) ((a0,a1,a2,a3,a4,()):((List En)×(Int×(Bool×(Int×(Int×Unit))))))=ZsG a0 a1 a2 a3 a4:=by kernel_rfl
def ZuA:List AV→Prog AV:=conP true ZDf (.dat tI) ZnE
theorem ZE6:Zd Tryz.prog 117 ZuA:=Zc (calU ZqA [Zud] 40 1048576 8 117) true (by rfl) (by rfl) (fun x r e=>(Zg _ _ _ _ _ _ _).trans ((ZQm x.1 x.2.1 x.2.2.1 x.2.2.2.1 x.2.2.2.2.1).trans e)) (.inl rfl)
end
section
open Go.Proofs Go.Proofs.YtbdcblpjemmipaaGreat
def ZJE:List Sh:=[.dat (.int .i64),.dat (.int .i64)]
def ZM8:List Con:=[]
theorem ZUM (a0 a1:Int):evGX (cxU ZM8 [] 40 1048576) keeps 8 119 ZJE (.dat .bool) ((a0,a1,()):(Int×(Int×Unit)))=Zyq a0 a1:=by kernel_rfl
def ZrU:List AV→Prog AV:=conP true ZJE (.dat .bool) Zaz
theorem ZAh:Zd Tryz.prog 119 ZrU:=Zc (calU ZM8 [] 40 1048576 8 119) true (by rfl) (by rfl) (fun x r e=>(Zg _ _ _ _ _ _ _).trans ((ZUM x.1 x.2.1).trans e)) (.inl rfl)
end
section
open Go.Proofs Go.Proofs.YtbdcblpjemmipaaGreat
def Zy9:List Sh:=[.dat (.sl tEn),.dat (.int .i64),.dat .bool,.dat (.int .i64),.dat (.int .i64),.dat (.int .i64)]
def Zd4:Nat→List Nat:=fun c=>bif c.beq 0 then [0,1,2,3,4,5,12,13,14] else [1,2,3,4,12,13]
def Zny:List Con:=[⟨119,ZrU,ZAh⟩,⟨117,ZuA,ZE6⟩]
def Jm:StS:=⟨[(0,.sl tEn),(1,.int .i64),(2,.bool),(3,.int .i64),(4,.int .i64),(5,.int .i64),(12,.ptr 0 0),(13,.row 1),(14,.int .i64)],[(0,.box [.int .i64,.int .i64]),(1,.row tEn)],2⟩
def J7:StS:=⟨[(1,.int .i64),(2,.bool),(3,.int .i64),(4,.int .i64),(12,.ptr 0 0),(13,.row 1)],[(0,.box [.int .i64,.int .i64]),(1,.row tEn)],2⟩
def ZoY:StD Jm→Jd:=fun ((a,b,c,d,e,f,_,_,g,_),((h,i,_),j,_))=>(a,b,c,d,e,f,g,h,i,j)
def Zgx:Jd→StD Jm:=fun (a,b,c,d,e,f,g,h,i,j)=>((a,b,c,d,e,f,(),(),g,()),((h,i,()),j,()))
def Zye:StD J7→QC:=fun ((a,b,c,d,_,_,_),((e,f,_),g,_))=>(a,b,c,d,e,f,g)
def Zfa:QC→StD J7:=fun (a,b,c,d,e,f,g)=>((a,b,c,d,(),(),()),((e,f,()),g,()))
theorem ZAS (x:Jd):rdX (cxU Zny [] 40 1048576) keeps 8 ⟨120,41,keeps 120,0⟩ 0 (bodyX 120 0) 0 Zd4 (sT Jm (Zgx x)) (sH Jm (Zgx x)) (rdO (fun T h=>(rdS Jm T h).map ZoY) (getE 2 J7 Zye))=Zgj x:=by kernel_rfl
def Zs6:Nat→Tm→Prog (Nat×Tm):=(varP 0 (fun T h=>(rdS Jm T h).map ZoY) Zap (altE 2 J7 Zfa) (fun _ _=>.fail))
def Zri:Lpc:=⟨120,0,41,(ownP [] [(13,tEn)] (Zd4 0) (fun base T=>.norm base (Zd4 0) T (Zs6 base))),by kernel_rfl,by kernel_rfl,(WQ (loopU Zny [] 40 1048576 8 (keep:=Zd4) (q:=Zs6) (by kernel_rfl) (Zp (s:=Jm) (un:=Zgx) (by rfl) (fun _=>rfl) (Zi (s:=J7) (un:=Zfa) (by rfl) (fun _=>rfl)) (step:=Zgj) ZAS (fun _ _ e=>⟨_,e⟩) (Zh 2 J7 Zfa) (ZA.fail _ _))))⟩
theorem ZNQ (a0:List En) (a1:Int) (a2:Bool) (a3 a4 a5:Int):evGX (cxU Zny [Zri] 40 1048576) keeps 8 120 Zy9 (.dat tI) ((a0,a1,a2,a3,a4,a5,()):((List En)×(Int×(Bool×(Int×(Int×(Int×Unit)))))))=ZoD a0 a1 a2 a3 a4 a5:=by kernel_rfl
def Zzm:List AV→Prog AV:=conP true Zy9 (.dat tI) VZ
theorem ZN4:Zd Tryz.prog 120 Zzm:=Zc (calU Zny [Zri] 40 1048576 8 120) true (by rfl) (by rfl) (fun x r e=>(Zg _ _ _ _ _ _ _).trans ((ZNQ x.1 x.2.1 x.2.2.1 x.2.2.2.1 x.2.2.2.2.1 x.2.2.2.2.2.1).trans e)) (.inl rfl)
end
section
open Go.Proofs Go.Proofs.YtbdcblpjemmipaaGreat
def ZHB:List Sh:=[.dat (.int .i64),.dat (.sl (.int .i64))]
def Zn6:Nat→List Nat:=fun c=>bif c.beq 0 then [0,1,5] else [0]
def Ztr:List Con:=[]
def He:StS:=⟨[(0,.int .i64),(1,.sl (.int .i64)),(5,.int .i64)],[],0⟩
def H1:StS:=⟨[(0,.int .i64)],[],0⟩
def Zsg:StD He→YQ:=fun ((a,b,c,_),_)=>(a,b,c)
def ZlC:YQ→StD He:=fun (a,b,c)=>((a,b,c,()),())
def ZCw (d:StD H1):JT:=(d.1.1)
def Zia (x:JT):StD H1:=((x,()),())
theorem ZGy (x:YQ):rdX (cxU Ztr [] 40 1048576) keeps 8 ⟨121,33,keeps 121,0⟩ 0 (bodyX 121 0) 0 Zn6 (sT He (ZlC x)) (sH He (ZlC x)) (rdO (fun T h=>(rdS He T h).map Zsg) (getE 2 H1 ZCw))=Zk9 x:=by kernel_rfl
def ZxN:Nat→Tm→Prog (Nat×Tm):=(varP 0 (fun T h=>(rdS He T h).map Zsg) ZcD (altE 2 H1 Zia) (fun _ _=>.fail))
def Zwh:Lpc:=⟨121,0,33,(fun base T=>.norm base (Zn6 0) T (ZxN base)),by kernel_rfl,by kernel_rfl,(loopU Ztr [] 40 1048576 8 (keep:=Zn6) (q:=ZxN) (by kernel_rfl) (Zp (s:=He) (un:=ZlC) (by rfl) (fun _=>rfl) (Zi (s:=H1) (un:=Zia) (by rfl) (fun _=>rfl)) (step:=Zk9) ZGy (fun _ _ e=>⟨_,e⟩) (Zh 2 H1 Zia) (ZA.fail _ _)))⟩
theorem ZSI (a0:Int) (a1:List Int):evGX (cxU Ztr [Zwh] 40 1048576) keeps 8 121 ZHB (.dat (.int .i64)) ((a0,a1,()):(Int×((List Int)×Unit)))=Zvq a0 a1:=by kernel_rfl
def ZHP:List AV→Prog AV:=conP true ZHB (.dat (.int .i64)) Zl1
theorem ZSZ:Zd Tryz.prog 121 ZHP:=Zc (calU Ztr [Zwh] 40 1048576 8 121) true (by rfl) (by rfl) (fun x r e=>(Zg _ _ _ _ _ _ _).trans ((ZSI x.1 x.2.1).trans e)) (.inl rfl)
end
section
open Go.Proofs Go.Proofs.YtbdcblpjemmipaaGreat
def Zzd:List Sh:=[.dat (.int .i64),.dat (.sl (.int .i64))]
def Zja:Nat→List Nat:=fun c=>bif c.beq 0 then [0,1,5] else [0]
def ZnB:List Con:=[]
def Jo:StS:=⟨[(0,.int .i64),(1,.sl (.int .i64)),(5,.int .i64)],[],0⟩
def J9:StS:=⟨[(0,.int .i64)],[],0⟩
def Zo0:StD Jo→Jh:=fun ((a,b,c,_),_)=>(a,b,c)
def ZgF:Jh→StD Jo:=fun (a,b,c)=>((a,b,c,()),())
def Zyg (d:StD J9):QD:=(d.1.1)
def Zfc (x:QD):StD J9:=((x,()),())
theorem ZAU (x:Jh):rdX (cxU ZnB [] 40 1048576) keeps 8 ⟨122,33,keeps 122,0⟩ 0 (bodyX 122 0) 0 Zja (sT Jo (ZgF x)) (sH Jo (ZgF x)) (rdO (fun T h=>(rdS Jo T h).map Zo0) (getE 2 J9 Zyg))=Zgk x:=by kernel_rfl
def Zs8:Nat→Tm→Prog (Nat×Tm):=(varP 0 (fun T h=>(rdS Jo T h).map Zo0) Zar (altE 2 J9 Zfc) (fun _ _=>.fail))
def Zrk:Lpc:=⟨122,0,33,(fun base T=>.norm base (Zja 0) T (Zs8 base)),by kernel_rfl,by kernel_rfl,(loopU ZnB [] 40 1048576 8 (keep:=Zja) (q:=Zs8) (by kernel_rfl) (Zp (s:=Jo) (un:=ZgF) (by rfl) (fun _=>rfl) (Zi (s:=J9) (un:=Zfc) (by rfl) (fun _=>rfl)) (step:=Zgk) ZAU (fun _ _ e=>⟨_,e⟩) (Zh 2 J9 Zfc) (ZA.fail _ _)))⟩
theorem ZNU (a0:Int) (a1:List Int):evGX (cxU ZnB [Zrk] 40 1048576) keeps 8 122 Zzd (.dat (.int .i64)) ((a0,a1,()):(Int×((List Int)×Unit)))=ZoE a0 a1:=by kernel_rfl
def Zzs:List AV→Prog AV:=conP true Zzd (.dat (.int .i64)) Zfi
theorem ZN7:Zd Tryz.prog 122 Zzs:=Zc (calU ZnB [Zrk] 40 1048576 8 122) true (by rfl) (by rfl) (fun x r e=>(Zg _ _ _ _ _ _ _).trans ((ZNU x.1 x.2.1).trans e)) (.inl rfl)
end
section
open Go.Proofs Go.Proofs.YtbdcblpjemmipaaGreat
def ZJD:List Sh:=[.dat tI,.dat tI]
def ZM7:List Con:=[⟨95,ZaC,Zcq⟩]
theorem ZUL (a0 a1:I):evGX (cxU ZM7 [] 40 1048576) keeps 8 165 ZJD (.dat tI) ((a0,a1,()):(I×(I×Unit)))=Zyp a0 a1:=by kernel_rfl
def ZJU:List AV→Prog AV:=conP true ZJD (.dat tI) ZFm
theorem ZVg:Zd Tryz.prog 165 ZJU:=Zc (calU ZM7 [] 40 1048576 8 165) true (by rfl) (by rfl) (fun x r e=>(Zg _ _ _ _ _ _ _).trans ((ZUL x.1 x.2.1).trans e)) (.inl rfl)
end
section
open Go.Proofs Go.Proofs.YtbdcblpjemmipaaGreat
def ZJz:List Sh:=[.dat tI,.dat (.int .i64)]
def ZM3:List Con:=[]
theorem ZUH (a0:I) (a1:Int):evGX (cxU ZM3 [] 40 1048576) keeps 8 164 ZJz (.dat .bool) ((a0,a1,()):(I×(Int×Unit)))=Zyn a0 a1:=by kernel_rfl
def ZJS:List AV→Prog AV:=conP true ZJz (.dat .bool) Zx3
theorem ZVe:Zd Tryz.prog 164 ZJS:=Zc (calU ZM3 [] 40 1048576 8 164) true (by rfl) (by rfl) (fun x r e=>(Zg _ _ _ _ _ _ _).trans ((ZUH x.1 x.2.1).trans e)) (.inl rfl)
end
section
open Go.Proofs Go.Proofs.YtbdcblpjemmipaaGreat
def ZHA:List Sh:=[.dat (.int .i64),.dat (.int .i64)]
def ZK7:List Con:=[⟨95,ZaC,Zcq⟩]
theorem ZSH (a0 a1:Int):evGX (cxU ZK7 [] 40 1048576) keeps 8 167 ZHA (.dat tI) ((a0,a1,()):(Int×(Int×Unit)))=Zvp a0 a1:=by kernel_rfl
def ZlR:List AV→Prog AV:=conP true ZHA (.dat tI) Z1
theorem Zqr:Zd Tryz.prog 167 ZlR:=Zc (calU ZK7 [] 40 1048576 8 167) true (by rfl) (by rfl) (fun x r e=>(Zg _ _ _ _ _ _ _).trans ((ZSH x.1 x.2.1).trans e)) (.inl rfl)
end
section
open Go.Proofs Go.Proofs.YtbdcblpjemmipaaGreat
def ZHz:List Sh:=[.dat (.int .i64),.dat (.int .i64)]
def ZK6:List Con:=[⟨167,ZlR,Zqr⟩]
theorem ZSG (a0 a1:Int):evGX (cxU ZK6 [] 40 1048576) keeps 8 161 ZHz (.tup [.dat tI,.dat .bool]) ((a0,a1,()):(Int×(Int×Unit)))=Zvo a0 a1:=by kernel_rfl
def ZwR:List AV→Prog AV:=conP true ZHz (.tup [.dat tI,.dat .bool]) ZbE
theorem ZH1:Zd Tryz.prog 161 ZwR:=Zc (calU ZK6 [] 40 1048576 8 161) true (by rfl) (by rfl) (fun x r e=>(Zg _ _ _ _ _ _ _).trans ((ZSG x.1 x.2.1).trans e)) (.inl rfl)
end
section
open Go.Proofs Go.Proofs.YtbdcblpjemmipaaGreat
def Zzc:List Sh:=[.dat tI,.dat tI,.dat .bool]
def Zi9:Nat→List Nat:=fun c=>bif c.beq 0 then [8,9,10,11] else [9,10]
def ZnA:List Con:=[]
def Jn:StS:=⟨[(8,.row 0),(9,.int .i64),(10,.int .i64),(11,.int .i64)],[(0,.row (.int .i64))],1⟩
def J8:StS:=⟨[(9,.int .i64),(10,.int .i64)],[],0⟩
def ZoZ:StD Jn→Yg:=fun ((_,a,b,c,_),(d,_))=>(a,b,c,d)
def ZgE:Yg→StD Jn:=fun (a,b,c,d)=>(((),a,b,c,()),(d,()))
def Zyf (d:StD J8):ZbM:=(d.1.1,d.1.2.1)
def Zfb (x:ZbM):StD J8:=((x.1,x.2,()),())
theorem ZAT (x:Yg):rdX (cxU ZnA [] 40 1048576) keeps 8 ⟨162,79,keeps 162,0⟩ 0 (bodyX 162 0) 0 Zi9 (sT Jn (ZgE x)) (sH Jn (ZgE x)) (rdO (fun T h=>(rdS Jn T h).map ZoZ) (getE 2 J8 Zyf))=Kh x:=by kernel_rfl
def Zs7:Nat→Tm→Prog (Nat×Tm):=(varP 0 (fun T h=>(rdS Jn T h).map ZoZ) Zaq (altE 2 J8 Zfb) (fun _ _=>.fail))
def Zrj:Lpc:=⟨162,0,79,(fun base T=>.norm base (Zi9 0) T (Zs7 base)),by kernel_rfl,by kernel_rfl,(loopU ZnA [] 40 1048576 8 (keep:=Zi9) (q:=Zs7) (by kernel_rfl) (Zp (s:=Jn) (un:=ZgE) (by rfl) (fun _=>rfl) (Zi (s:=J8) (un:=Zfb) (by rfl) (fun _=>rfl)) (step:=Kh) ZAT (fun _ _ e=>⟨_,e⟩) (Zh 2 J8 Zfb) (ZA.fail _ _)))⟩
theorem ZNT (a0 a1:I) (a2:Bool):evGX (cxU ZnA [Zrj] 40 1048576) keeps 8 162 Zzc (.tup [.dat (.int .i64),.dat (.int .i64)]) ((a0,a1,a2,()):(I×(I×(Bool×Unit))))=Zi5 a0 a1 a2:=by kernel_rfl
def ZqF:List AV→Prog AV:=conP true Zzc (.tup [.dat (.int .i64),.dat (.int .i64)]) ZiM
theorem ZAg:Zd Tryz.prog 162 ZqF:=Zc (calU ZnA [Zrj] 40 1048576 8 162) true (by rfl) (by rfl) (fun x r e=>(Zg _ _ _ _ _ _ _).trans ((ZNT x.1 x.2.1 x.2.2.1).trans e)) (.inl rfl)
end
section
open Go.Proofs Go.Proofs.YtbdcblpjemmipaaGreat
def ZHx:List Sh:=[.dat tI,.dat tI]
def ZK4:List Con:=[⟨167,ZlR,Zqr⟩]
theorem ZSE (a0 a1:I):evGX (cxU ZK4 [] 40 1048576) keeps 8 118 ZHx (.dat tI) ((a0,a1,()):(I×(I×Unit)))=Zvn a0 a1:=by kernel_rfl
def ZlQ:List AV→Prog AV:=conP true ZHx (.dat tI) ZU
theorem Zqq:Zd Tryz.prog 118 ZlQ:=Zc (calU ZK4 [] 40 1048576 8 118) true (by rfl) (by rfl) (fun x r e=>(Zg _ _ _ _ _ _ _).trans ((ZSE x.1 x.2.1).trans e)) (.inl rfl)
end
section
open Go.Proofs Go.Proofs.YtbdcblpjemmipaaGreat
def ZJC:List Sh:=[.dat tI,.dat tI]
def ZM6:List Con:=[⟨95,ZaC,Zcq⟩,⟨118,ZlQ,Zqq⟩,⟨47,Qr,QV⟩,⟨162,ZqF,ZAg⟩,⟨161,ZwR,ZH1⟩,⟨19,ZaB,Zcp⟩]
theorem ZUK (a0 a1:I):evGX (cxU ZM6 [] 40 1048576) keeps 8 163 ZJC (.tup [.dat tI,.dat .bool]) ((a0,a1,()):(I×(I×Unit)))=Zyo a0 a1:=by kernel_rfl
def ZJT:List AV→Prog AV:=conP true ZJC (.tup [.dat tI,.dat .bool]) ZFl
theorem ZVf:Zd Tryz.prog 163 ZJT:=Zc (calU ZM6 [] 40 1048576 8 163) true (by rfl) (by rfl) (fun x r e=>(Zg _ _ _ _ _ _ _).trans ((ZUK x.1 x.2.1).trans e)) (.inl rfl)
end
section
open Go.Proofs Go.Proofs.YtbdcblpjemmipaaGreat
def ZMj:List Sh:=[.dat (.int .i64),.dat tI,.dat tI]
def ZPu:List Con:=[⟨47,Qr,QV⟩,⟨95,ZaC,Zcq⟩,⟨161,ZwR,ZH1⟩,⟨162,ZqF,ZAg⟩,⟨163,ZJT,ZVf⟩,⟨164,ZJS,ZVe⟩,⟨165,ZJU,ZVg⟩]
theorem ZVZ (a0:Int) (a1 a2:I):evGX (cxU ZPu [] 40 1048576) keeps 8 116 ZMj (.tup [.dat tI,.dat .bool,.dat .bool]) ((a0,a1,a2,()):(Int×(I×(I×Unit))))=ZBp a0 a1 a2:=by kernel_rfl
def ZMs:List AV→Prog AV:=conP true ZMj (.tup [.dat tI,.dat .bool,.dat .bool]) ZJk
theorem ZWa:Zd Tryz.prog 116 ZMs:=Zc (calU ZPu [] 40 1048576 8 116) true (by rfl) (by rfl) (fun x r e=>(Zg _ _ _ _ _ _ _).trans ((ZVZ x.1 x.2.1 x.2.2.1).trans e)) (.inl rfl)
end
section
open Go.Proofs Go.Proofs.YtbdcblpjemmipaaGreat
def ZDn:List Sh:=[.dat tI,.dat tI]
def ZIb:List Con:=[⟨167,ZlR,Zqr⟩]
theorem ZQu (a0 a1:I):evGX (cxU ZIb [] 40 1048576) keeps 8 168 ZDn (.dat tI) ((a0,a1,()):(I×(I×Unit)))=ZsL a0 a1:=by kernel_rfl
def ZDE:List AV→Prog AV:=conP true ZDn (.dat tI) ZrL
theorem ZQX:Zd Tryz.prog 168 ZDE:=Zc (calU ZIb [] 40 1048576 8 168) true (by rfl) (by rfl) (fun x r e=>(Zg _ _ _ _ _ _ _).trans ((ZQu x.1 x.2.1).trans e)) (.inl rfl)
end
section
open Go.Proofs Go.Proofs.YtbdcblpjemmipaaGreat
def ZBb:List Sh:=[.dat (.int .i64),.dat tI,.dat tI]
def ZFc:List Con:=[⟨47,Qr,QV⟩,⟨95,ZaC,Zcq⟩,⟨167,ZlR,Zqr⟩,⟨118,ZlQ,Zqq⟩,⟨168,ZDE,ZQX⟩]
theorem ZO9 (a0:Int) (a1 a2:I):evGX (cxU ZFc [] 40 1048576) keeps 8 123 ZBb (.tup [.dat tI,.dat tI]) ((a0,a1,a2,()):(Int×(I×(I×Unit))))=Zqn a0 a1 a2:=by kernel_rfl
def ZBh:List AV→Prog AV:=conP true ZBb (.tup [.dat tI,.dat tI]) Zp9
theorem ZPn:Zd Tryz.prog 123 ZBh:=Zc (calU ZFc [] 40 1048576 8 123) true (by rfl) (by rfl) (fun x r e=>(Zg _ _ _ _ _ _ _).trans ((ZO9 x.1 x.2.1 x.2.2.1).trans e)) (.inl rfl)
end
section
open Go.Proofs Go.Proofs.YtbdcblpjemmipaaGreat
def ZJA:List Sh:=[.dat tI,.dat tI]
def ZM4:List Con:=[⟨47,Qr,QV⟩]
theorem ZUI (a0 a1:I):evGX (cxU ZM4 [] 40 1048576) keeps 8 66 ZJA (.dat .bool) ((a0,a1,()):(I×(I×Unit)))=ZFH a0 a1:=by kernel_rfl
def ZrT:List AV→Prog AV:=conP true ZJA (.dat .bool) Hq
theorem ZAf:Zd Tryz.prog 66 ZrT:=Zc (calU ZM4 [] 40 1048576 8 66) true (by rfl) (by rfl) (fun x r e=>(Zg _ _ _ _ _ _ _).trans ((ZUI x.1 x.2.1).trans e)) (.inl rfl)
end
section
open Go.Proofs Go.Proofs.YtbdcblpjemmipaaGreat
def ZDd:List Sh:=[.dat (.sl tI),.dat (.sl tI)]
def Zn1:Nat→List Nat:=fun c=>bif c.beq 0 then [0,1,5] else [4]
def Zqy:List Con:=[]
def Y5:StS:=⟨[(0,.sl tI),(1,.sl tI),(5,.int .i64)],[],0⟩
def HN:StS:=⟨[(4,.undef)],[],0⟩
def HO:StS:=⟨[(4,.bool)],[],0⟩
def Zr7:StD Y5→YJ:=fun ((a,b,c,_),_)=>(a,b,c)
def Zlr:YJ→StD Y5:=fun (a,b,c)=>((a,b,c,()),())
def ZCi (d:StD HN):JI:=()
def ZhV (x:JI):StD HN:=(((),()),())
def ZCj (d:StD HO):JJ:=(d.1.1)
def ZhW (x:JJ):StD HO:=((x,()),())
theorem ZGp (x:YJ):rdX (cxU Zqy [] 40 1048576) keeps 8 ⟨76,26,keeps 76,0⟩ 0 (bodyX 76 0) 0 Zn1 (sT Y5 (Zlr x)) (sH Y5 (Zlr x)) (rdO (fun T h=>(rdS Y5 T h).map Zr7) (getOr (getE 2 HN ZCi) (getE 1 HO ZCj)))=Zk0 x:=by kernel_rfl
def ZxG:Nat→Tm→Prog (Nat×Tm):=(varP 0 (fun T h=>(rdS Y5 T h).map Zr7) ZfF (fun y=>.alt y (altE 2 HN ZhV) (altE 1 HO ZhW)) (fun _ _=>.fail))
def Zwd:Lpc:=⟨76,0,26,(fun base T=>.norm base (Zn1 0) T (ZxG base)),by kernel_rfl,by kernel_rfl,(loopU Zqy [] 40 1048576 8 (keep:=Zn1) (q:=ZxG) (by kernel_rfl) (Zp (s:=Y5) (un:=Zlr) (by rfl) (fun _=>rfl) (ZR (Zi (s:=HN) (un:=ZhV) (by rfl) (fun _=>rfl)) (Zi (s:=HO) (un:=ZhW) (by rfl) (fun _=>rfl))) (step:=Zk0) ZGp (fun _ _ e=>⟨_,e⟩) (ZQ (Zh 2 HN ZhV) (Zh 1 HO ZhW)) (ZA.fail _ _)))⟩
theorem ZQk (a0 a1:List I):evGX (cxU Zqy [Zwd] 40 1048576) keeps 8 76 ZDd (.dat .bool) ((a0,a1,()):((List I)×((List I)×Unit)))=Zi1 a0 a1:=by kernel_rfl
def ZDy:List AV→Prog AV:=conP true ZDd (.dat .bool) ZiJ
theorem ZQR:Zd Tryz.prog 76 ZDy:=Zc (calU Zqy [Zwd] 40 1048576 8 76) true (by rfl) (by rfl) (fun x r e=>(Zg _ _ _ _ _ _ _).trans ((ZQk x.1 x.2.1).trans e)) (.inl rfl)
end
section
open Go.Proofs Go.Proofs.YtbdcblpjemmipaaGreat
def ZDe:List Sh:=[.dat (.sl tEn),.dat (.sl tEn)]
def Zn2:Nat→List Nat:=fun c=>bif c.beq 0 then [0,1,5] else [4]
def Zqz:List Con:=[]
def Y6:StS:=⟨[(0,.sl tEn),(1,.sl tEn),(5,.int .i64)],[],0⟩
def HP:StS:=⟨[(4,.undef)],[],0⟩
def HQ:StS:=⟨[(4,.bool)],[],0⟩
abbrev YM:=((List En)×(List En)×Int)
def Zr8:StD Y6→YM:=fun ((a,b,c,_),_)=>(a,b,c)
def Zlu:YM→StD Y6:=fun (a,b,c)=>((a,b,c,()),())
abbrev JK:=Unit
def ZCk (d:StD HP):JK:=()
def ZhX (x:JK):StD HP:=(((),()),())
abbrev JL:=Bool
def ZCl (d:StD HQ):JL:=(d.1.1)
def ZhY (x:JL):StD HQ:=((x,()),())
def Zb2 (s0 s1:List En) (s5:Int):Option (((List En)×(List En)×Int)⊕(Unit⊕Bool)):=
 bif decide (s5<(↑s0.length:Int)) then
 bif decide (0≤s5) then
 optC s0[s5.toNat]? none fun d5=>
 bif decide (0≤s5) then
 optC s1[s5.toNat]? none fun d6=>
 bif
 !(d5.1==d6.1 &&
 (d5.2.1==d6.2.1 &&
 (d5.2.2.1==d6.2.2.1 &&
 (d5.2.2.2.1==d6.2.2.2.1&&(d5.2.2.2.2.1==d6.2.2.2.2.1&&d5.2.2.2.2.2==d6.2.2.2.2.2))))) then
 some (Sum.inr (Sum.inr false))
 else some (Sum.inl (s0,s1,IntKind.i64.wrap (s5+1)))
 else none
 else none
 else some (Sum.inr (Sum.inl PUnit.unit))
def Zk1:YM→Option (YM⊕(JK⊕JL)):=fun (a,b,c)=>Zb2 a b c
theorem ZGq (x:YM):rdX (cxU Zqz [] 40 1048576) keeps 8 ⟨40,26,keeps 40,0⟩ 0 (bodyX 40 0) 0 Zn2 (sT Y6 (Zlu x)) (sH Y6 (Zlu x)) (rdO (fun T h=>(rdS Y6 T h).map Zr8) (getOr (getE 2 HP ZCk) (getE 1 HQ ZCl)))=Zk1 x:=by kernel_rfl
def ZfG (x:YM):Option (JK⊕JL):=iterO Zk1 Zj x
def ZxH:Nat→Tm→Prog (Nat×Tm):=(varP 0 (fun T h=>(rdS Y6 T h).map Zr8) ZfG (fun y=>.alt y (altE 2 HP ZhX) (altE 1 HQ ZhY)) (fun _ _=>.fail))
def Zwe:Lpc:=⟨40,0,26,(fun base T=>.norm base (Zn2 0) T (ZxH base)),by kernel_rfl,by kernel_rfl,(loopU Zqz [] 40 1048576 8 (keep:=Zn2) (q:=ZxH) (by kernel_rfl) (Zp (s:=Y6) (un:=Zlu) (by rfl) (fun _=>rfl) (ZR (Zi (s:=HP) (un:=ZhX) (by rfl) (fun _=>rfl)) (Zi (s:=HQ) (un:=ZhY) (by rfl) (fun _=>rfl))) (step:=Zk1) ZGq (fun _ _ e=>⟨_,e⟩) (ZQ (Zh 2 HP ZhX) (Zh 1 HQ ZhY)) (ZA.fail _ _)))⟩
def Zi2 (a0 a1:List En):Option Bool:=
 bif (↑a0.length:Int) !=(↑a1.length:Int) then some false
 else optC (ZfG (a0,a1,0)) none fun d4=>Sum.elim (fun e5=>some true) (fun e5=>some e5) d4
theorem ZQl (a0 a1:List En):evGX (cxU Zqz [Zwe] 40 1048576) keeps 8 40 ZDe (.dat .bool) ((a0,a1,()):((List En)×((List En)×Unit)))=Zi2 a0 a1:=by kernel_rfl
def ZyZ (x:((List En)×((List En)×Unit))):Option Bool:=Zi2 x.1 x.2.1
def ZDz:List AV→Prog AV:=conP false ZDe (.dat .bool) ZyZ
theorem ZQS:Zd Tryz.prog 40 ZDz:=Zc (calU Zqz [Zwe] 40 1048576 8 40) false (by rfl) (by rfl) (fun x r e=>(Zg _ _ _ _ _ _ _).trans ((ZQl x.1 x.2.1).trans e)) (.inr fun _=>rfl)
end
def ZbP (s1 s0:List En) (i:Nat)  (d:En):Option (Unit⊕(JK⊕JL)):=
 optC s1[i]? (none) fun d6=>
  bif !(d.1==d6.1&&(d.2.1==d6.2.1&&(d.2.2.1==d6.2.2.1&&(d.2.2.2.1==d6.2.2.2.1&&(d.2.2.2.2.1==d6.2.2.2.2.1&&d.2.2.2.2.2==d6.2.2.2.2.2))))) then
  some (Sum.inr (Sum.inr false))
 else some (Sum.inl ())
def Zsw (s1 s0:List En):Option (JK⊕JL):=
 some (Sum.inl PUnit.unit)
abbrev ZGO (s1 s0:List En) (i:Nat) (s:Unit):YM:=(s0,s1,(i:Int))
def ZkF (s1 s0:List En) (s:Unit):Option (JK⊕JL):=Zl (fun i s d=>ZbP s1 s0 i  d) (fun s=>Zsw s1 s0 ) 0 s0 s
theorem Ztc (s1 s0:List En) (s:Unit) (hl:s0.length<9223372036854775807):ZfG (s0,s1,0)=ZkF s1 s0 s:=by
 unfold ZfG ZkF
 refine Zk s0 (ZGO s1 s0) _ _ ?_ ?_ s (by unfold Zj;omega)
 ·intro i s d hi hd
  have e1:decide ((i:Int)<(s0.length:Int))=true:=decide_eq_true (by omega)
  have e2:decide (0≤(i:Int))=true:=decide_eq_true (by omega)
  have e3:Int.toNat (i:Int)=i:=Int.toNat_natCast i
  have e4:=Zm hi (Nat.le_of_lt hl)
  show Zb2 (s0) (s1) ((i:Int))=upd _ (ZbP s1 s0 i  d)
  unfold Zb2 ZbP
  simp only [e1,e2,e3,e4,hd,cond_true,cond_false,Zb,Zv,Zy,Zw,ZB,ZC,Zx]
 ·intro s
  have e1:decide ((s0.length:Int)<(s0.length:Int))=false:=decide_eq_false (by omega)
  show Zb2 (s0) (s1) ((s0.length:Int))=_
  unfold Zb2 Zsw
  rw [e1]
  rfl
section
open Go.Proofs Go.Proofs.YtbdcblpjemmipaaGreat
def ZDb:List Sh:=[.dat tE,.dat tE]
def ZH6:List Con:=[⟨76,ZDy,ZQR⟩]
theorem ZQi (a0 a1:E):evGX (cxU ZH6 [] 40 1048576) keeps 8 49 ZDb (.dat .bool) ((a0,a1,()):(E×(E×Unit)))=ZiZ a0 a1:=by kernel_rfl
def Zuz:List AV→Prog AV:=conP true ZDb (.dat .bool) Zdn
theorem ZE5:Zd Tryz.prog 49 Zuz:=Zc (calU ZH6 [] 40 1048576 8 49) true (by rfl) (by rfl) (fun x r e=>(Zg _ _ _ _ _ _ _).trans ((ZQi x.1 x.2.1).trans e)) (.inl rfl)
end
section
open Go.Proofs Go.Proofs.YtbdcblpjemmipaaGreat
def ZDj:List Sh:=[.dat tE,.dat (.int .i64),.dat tI]
def ZH9:List Con:=[]
theorem ZQq (a0:E) (a1:Int) (a2:I):evGX (cxU ZH9 [] 40 1048576) keeps 8 83 ZDj (.dat tE) ((a0,a1,a2,()):(E×(Int×(I×Unit))))=Zi3 a0 a1 a2:=by kernel_rfl
def Zox:List AV→Prog AV:=conP true ZDj (.dat tE) Zq
theorem Zu1:Zd Tryz.prog 83 Zox:=Zc (calU ZH9 [] 40 1048576 8 83) true (by rfl) (by rfl) (fun x r e=>(Zg _ _ _ _ _ _ _).trans ((ZQq x.1 x.2.1 x.2.2.1).trans e)) (.inl rfl)
end
section
open Go.Proofs Go.Proofs.YtbdcblpjemmipaaGreat
def ZDg:List Sh:=[.dat (.int .i64),.dat tE,.dat (.sl tEn),.dat .bool,.dat (.int .i64)]
def ZH7:List Con:=[⟨117,ZuA,ZE6⟩,⟨19,ZaB,Zcp⟩]
theorem ZQn (a0:Int) (a1:E) (a2:List En) (a3:Bool) (a4:Int):evGX (cxU ZH7 [] 40 1048576) keeps 8 86 ZDg (.dat tI) ((a0,a1,a2,a3,a4,()):(Int×(E×((List En)×(Bool×(Int×Unit))))))=ZsH a0 a1 a2 a3 a4:=by kernel_rfl
def ZDA:List AV→Prog AV:=conP true ZDg (.dat tI) Qu
theorem ZQT:Zd Tryz.prog 86 ZDA:=Zc (calU ZH7 [] 40 1048576 8 86) true (by rfl) (by rfl) (fun x r e=>(Zg _ _ _ _ _ _ _).trans ((ZQn x.1 x.2.1 x.2.2.1 x.2.2.2.1 x.2.2.2.2.1).trans e)) (.inl rfl)
end
theorem Zhk {α Y:Type} {f:Nat→Unit→α→Option (Unit⊕Y)} {fin:Unit→Option Y}:∀ (l:List α) (i:Nat),(∀ j d,l[j]? = some d→f (i+j) () d=some (.inl ()))→Zl f fin i l ()=fin ()
 | [],_,_=>rfl
 | d::r,i,h=>by
  rw [Qk (by have:=h 0 d rfl;rwa [Nat.add_zero] at this)]
  exact Zhk r (i+1) fun j d hd=>by rw [Nat.add_right_comm];exact h (j+1) d hd
section
open Go.Proofs Go.Proofs.YtbdcblpjemmipaaGreat
def ZDh:List Sh:=[.dat (.int .i64),.dat tA,.dat tE,.dat (.sl tEn)]
def Zg8:Nat→List Nat:=fun c=>bif c.beq 0 then [0,3,5,6,8,9,10,11] else [0,3,5,6,8,9,10]
def Zg9:Nat→List Nat:=fun c=>bif c.beq 0 then [0,3,5,6,8,9,10,12] else [5,6,8,9,10]
def Zee:List Con:=[⟨119,ZrU,ZAh⟩,⟨120,Zzm,ZN4⟩,⟨19,ZaB,Zcp⟩,⟨121,ZHP,ZSZ⟩]
def Y8:StS:=⟨[(0,.int .i64),(3,.sl tEn),(5,.ptr 0 0),(6,.ptr 1 0),(8,.ptr 2 0),(9,.ptr 3 0),(10,.ptr 5 0),(11,.int .i64)],[(0,.box [.int .i64,.int .i64,.int .i64,.int .i64,.int .i64,.int .i64,.int .i64,.int .i64,.int .i64]),(1,.box [.bool,.sl tI,.sl tI,.sl tI,.int .i64,.int .i64]),(2,.box [.bool,.nil,.nil,.nil,.int .i64,.int .i64,.bool,.nil,.nil,.nil,.int .i64,.int .i64,.nil,.nil,.nil]),(3,.box [.bool,.nil,.nil,.nil,.int .i64,.int .i64,.bool,.nil,.nil,.nil,.int .i64,.int .i64,.row 4,.nil,.nil]),(4,.row (.int .i64)),(5,.box [.bool,.sl tI,.row 6,.row 7,.int .i64,.int .i64]),(6,.row tI),(7,.row tI)],8⟩
def HS:StS:=⟨[(0,.int .i64),(3,.sl tEn),(5,.ptr 0 0),(6,.ptr 1 0),(8,.ptr 2 0),(9,.ptr 3 0),(10,.ptr 5 0)],[(0,.box [.int .i64,.int .i64,.int .i64,.int .i64,.int .i64,.int .i64,.int .i64,.int .i64,.int .i64]),(1,.box [.bool,.sl tI,.sl tI,.sl tI,.int .i64,.int .i64]),(2,.box [.bool,.nil,.nil,.nil,.int .i64,.int .i64,.bool,.nil,.nil,.nil,.int .i64,.int .i64,.nil,.nil,.nil]),(3,.box [.bool,.nil,.nil,.nil,.int .i64,.int .i64,.bool,.nil,.nil,.nil,.int .i64,.int .i64,.row 4,.nil,.nil]),(4,.row (.int .i64)),(5,.box [.bool,.sl tI,.row 6,.row 7,.int .i64,.int .i64]),(6,.row tI),(7,.row tI)],8⟩
def Zsa:StD Y8→WW:=fun ((a,b,_,_,_,_,_,c,_),((d,e,f,g,h,i,j,k,l,_),(m,n,o,p,q,r,_),(s,_,_,_,t,u,w,_,_,_,y,z,_,_,_,_),(au,_,_,_,aw,ay,az,_,_,_,bu,bw,_,_,_,_),bz,(cu,cw,_,_,cy,cz,_),du,dw,_))=>(a,b,c,d,e,f,g,h,i,j,k,l,m,n,o,p,q,r,s,t,u,w,y,z,au,aw,ay,az,bu,bw,bz,cu,cw,cy,cz,du,dw)
def Zlw:WW→StD Y8:=fun (a,b,c,d,e,f,g,h,i,j,k,l,m,n,o,p,q,r,s,t,u,w,y,z,au,aw,ay,az,bu,bw,bz,cu,cw,cy,cz,du,dw)=>((a,b,(),(),(),(),(),c,()),((d,e,f,g,h,i,j,k,l,()),(m,n,o,p,q,r,()),(s,(),(),(),t,u,w,(),(),(),y,z,(),(),(),()),(au,(),(),(),aw,ay,az,(),(),(),bu,bw,(),(),(),()),bz,(cu,cw,(),(),cy,cz,()),du,dw,()))
def ZCn:StD HS→ZdK:=fun ((a,b,_,_,_,_,_,_),((c,d,e,f,g,h,i,j,k,_),(l,m,n,o,p,q,_),(r,_,_,_,s,t,u,_,_,_,w,y,_,_,_,_),(z,_,_,_,au,aw,ay,_,_,_,az,bu,_,_,_,_),bw,(bz,cu,_,_,cw,cy,_),cz,du,_))=>(a,b,c,d,e,f,g,h,i,j,k,l,m,n,o,p,q,r,s,t,u,w,y,z,au,aw,ay,az,bu,bw,bz,cu,cw,cy,cz,du)
def Zh0:ZdK→StD HS:=fun (a,b,c,d,e,f,g,h,i,j,k,l,m,n,o,p,q,r,s,t,u,w,y,z,au,aw,ay,az,bu,bw,bz,cu,cw,cy,cz,du)=>((a,b,(),(),(),(),(),()),((c,d,e,f,g,h,i,j,k,()),(l,m,n,o,p,q,()),(r,(),(),(),s,t,u,(),(),(),w,y,(),(),(),()),(z,(),(),(),au,aw,ay,(),(),(),az,bu,(),(),(),()),bw,(bz,cu,(),(),cw,cy,()),cz,du,()))
theorem ZGs (x:WW):rdX (cxU Zee [] 40 1048576) keeps 8 ⟨88,108,keeps 88,0⟩ 0 (bodyX 88 0) 0 Zg8 (sT Y8 (Zlw x)) (sH Y8 (Zlw x)) (rdO (fun T h=>(rdS Y8 T h).map Zsa) (getE 2 HS ZCn))=Zk3 x:=by kernel_rfl
def Y7:StS:=⟨[(0,.int .i64),(3,.sl tEn),(5,.ptr 0 0),(6,.ptr 1 0),(8,.ptr 2 0),(9,.ptr 3 0),(10,.ptr 4 0),(11,.int .i64)],[(0,.box [.int .i64,.int .i64,.int .i64,.int .i64,.int .i64,.int .i64,.int .i64,.int .i64,.int .i64]),(1,.box [.bool,.sl tI,.sl tI,.sl tI,.int .i64,.int .i64]),(2,.box [.bool,.nil,.nil,.nil,.int .i64,.int .i64,.bool,.nil,.nil,.nil,.int .i64,.int .i64,.nil,.nil,.nil]),(3,.box [.bool,.nil,.nil,.nil,.int .i64,.int .i64,.bool,.nil,.nil,.nil,.int .i64,.int .i64,.nil,.nil,.nil]),(4,.box [.bool,.sl tI,.row 5,.row 6,.int .i64,.int .i64]),(5,.row tI),(6,.row tI)],7⟩
def HR:StS:=⟨[(0,.int .i64),(3,.sl tEn),(5,.ptr 0 0),(6,.ptr 1 0),(8,.ptr 2 0),(9,.ptr 3 0),(10,.ptr 4 0)],[(0,.box [.int .i64,.int .i64,.int .i64,.int .i64,.int .i64,.int .i64,.int .i64,.int .i64,.int .i64]),(1,.box [.bool,.sl tI,.sl tI,.sl tI,.int .i64,.int .i64]),(2,.box [.bool,.nil,.nil,.nil,.int .i64,.int .i64,.bool,.nil,.nil,.nil,.int .i64,.int .i64,.nil,.nil,.nil]),(3,.box [.bool,.nil,.nil,.nil,.int .i64,.int .i64,.bool,.nil,.nil,.nil,.int .i64,.int .i64,.nil,.nil,.nil]),(4,.box [.bool,.sl tI,.row 5,.row 6,.int .i64,.int .i64]),(5,.row tI),(6,.row tI)],7⟩
def Zr9:StD Y7→WV:=fun ((a,b,_,_,_,_,_,c,_),((d,e,f,g,h,i,j,k,l,_),(m,n,o,p,q,r,_),(s,_,_,_,t,u,w,_,_,_,y,z,_,_,_,_),(au,_,_,_,aw,ay,az,_,_,_,bu,bw,_,_,_,_),(bz,cu,_,_,cw,cy,_),cz,du,_))=>(a,b,c,d,e,f,g,h,i,j,k,l,m,n,o,p,q,r,s,t,u,w,y,z,au,aw,ay,az,bu,bw,bz,cu,cw,cy,cz,du)
def Zlv:WV→StD Y7:=fun (a,b,c,d,e,f,g,h,i,j,k,l,m,n,o,p,q,r,s,t,u,w,y,z,au,aw,ay,az,bu,bw,bz,cu,cw,cy,cz,du)=>((a,b,(),(),(),(),(),c,()),((d,e,f,g,h,i,j,k,l,()),(m,n,o,p,q,r,()),(s,(),(),(),t,u,w,(),(),(),y,z,(),(),(),()),(au,(),(),(),aw,ay,az,(),(),(),bu,bw,(),(),(),()),(bz,cu,(),(),cw,cy,()),cz,du,()))
def ZCm:StD HR→ZdJ:=fun ((a,b,_,_,_,_,_,_),((c,d,e,f,g,h,i,j,k,_),(l,m,n,o,p,q,_),(r,_,_,_,s,t,u,_,_,_,w,y,_,_,_,_),(z,_,_,_,au,aw,ay,_,_,_,az,bu,_,_,_,_),(bw,bz,_,_,cu,cw,_),cy,cz,_))=>(a,b,c,d,e,f,g,h,i,j,k,l,m,n,o,p,q,r,s,t,u,w,y,z,au,aw,ay,az,bu,bw,bz,cu,cw,cy,cz)
def ZhZ:ZdJ→StD HR:=fun (a,b,c,d,e,f,g,h,i,j,k,l,m,n,o,p,q,r,s,t,u,w,y,z,au,aw,ay,az,bu,bw,bz,cu,cw,cy,cz)=>((a,b,(),(),(),(),(),()),((c,d,e,f,g,h,i,j,k,()),(l,m,n,o,p,q,()),(r,(),(),(),s,t,u,(),(),(),w,y,(),(),(),()),(z,(),(),(),au,aw,ay,(),(),(),az,bu,(),(),(),()),(bw,bz,(),(),cu,cw,()),cy,cz,()))
theorem ZGr (x:WV):rdX (cxU Zee [] 40 1048576) keeps 8 ⟨88,108,keeps 88,0⟩ 0 (bodyX 88 0) 0 Zg8 (sT Y7 (Zlv x)) (sH Y7 (Zlv x)) (rdO (fun T h=>(rdS Y7 T h).map Zr9) (getE 2 HR ZCm))=Zk2 x:=by kernel_rfl
def ZxI:Nat→Tm→Prog (Nat×Tm):=(varP 0 (fun T h=>(rdS Y7 T h).map Zr9) ZfH (altE 2 HR ZhZ) (varP 0 (fun T h=>(rdS Y8 T h).map Zsa) ZfI (altE 2 HS Zh0) (fun _ _=>.fail)))
def Zhe:Lpc:=⟨88,0,108,(fun base T=>.norm base (Zg8 0) T (ZxI base)),by kernel_rfl,by kernel_rfl,(loopU Zee [] 40 1048576 8 (keep:=Zg8) (q:=ZxI) (by kernel_rfl) (Zp (s:=Y7) (un:=Zlv) (by rfl) (fun _=>rfl) (Zi (s:=HR) (un:=ZhZ) (by rfl) (fun _=>rfl)) (step:=Zk2) ZGr (fun _ _ e=>⟨_,e⟩) (Zh 2 HR ZhZ) (Zp (s:=Y8) (un:=Zlw) (by rfl) (fun _=>rfl) (Zi (s:=HS) (un:=Zh0) (by rfl) (fun _=>rfl)) (step:=Zk3) ZGs (fun _ _ e=>⟨_,e⟩) (Zh 2 HS Zh0) (ZA.fail _ _))))⟩
abbrev ZvN:=cxU Zee [Zhe] 40 1048576
def Ha:StS:=⟨[(0,.int .i64),(3,.sl tEn),(5,.ptr 0 0),(6,.ptr 1 0),(8,.ptr 2 0),(9,.ptr 3 0),(10,.ptr 5 0),(12,.int .i64)],[(0,.box [.int .i64,.int .i64,.int .i64,.int .i64,.int .i64,.int .i64,.int .i64,.int .i64,.int .i64]),(1,.box [.bool,.sl tI,.sl tI,.sl tI,.int .i64,.int .i64]),(2,.box [.bool,.nil,.nil,.nil,.int .i64,.int .i64,.bool,.nil,.nil,.nil,.int .i64,.int .i64,.nil,.nil,.nil]),(3,.box [.bool,.nil,.nil,.nil,.int .i64,.int .i64,.bool,.nil,.nil,.nil,.int .i64,.int .i64,.row 4,.nil,.nil]),(4,.row (.int .i64)),(5,.box [.bool,.sl tI,.row 6,.row 7,.int .i64,.int .i64]),(6,.row tI),(7,.row tI)],8⟩
def HU:StS:=⟨[(5,.ptr 0 0),(6,.ptr 1 0),(8,.ptr 2 0),(9,.ptr 3 0),(10,.ptr 5 0)],[(0,.box [.int .i64,.int .i64,.int .i64,.int .i64,.int .i64,.int .i64,.int .i64,.int .i64,.int .i64]),(1,.box [.bool,.sl tI,.sl tI,.sl tI,.int .i64,.int .i64]),(2,.box [.bool,.nil,.nil,.nil,.int .i64,.int .i64,.bool,.nil,.nil,.nil,.int .i64,.int .i64,.nil,.nil,.nil]),(3,.box [.bool,.nil,.nil,.nil,.int .i64,.int .i64,.bool,.nil,.nil,.nil,.int .i64,.int .i64,.row 4,.nil,.nil]),(4,.row (.int .i64)),(5,.box [.bool,.sl tI,.row 6,.row 7,.int .i64,.int .i64]),(6,.row tI),(7,.row tI)],8⟩
def Zsc:StD Ha→WY:=fun ((a,b,_,_,_,_,_,c,_),((d,e,f,g,h,i,j,k,l,_),(m,n,o,p,q,r,_),(s,_,_,_,t,u,w,_,_,_,y,z,_,_,_,_),(au,_,_,_,aw,ay,az,_,_,_,bu,bw,_,_,_,_),bz,(cu,cw,_,_,cy,cz,_),du,dw,_))=>(a,b,c,d,e,f,g,h,i,j,k,l,m,n,o,p,q,r,s,t,u,w,y,z,au,aw,ay,az,bu,bw,bz,cu,cw,cy,cz,du,dw)
def Zly:WY→StD Ha:=fun (a,b,c,d,e,f,g,h,i,j,k,l,m,n,o,p,q,r,s,t,u,w,y,z,au,aw,ay,az,bu,bw,bz,cu,cw,cy,cz,du,dw)=>((a,b,(),(),(),(),(),c,()),((d,e,f,g,h,i,j,k,l,()),(m,n,o,p,q,r,()),(s,(),(),(),t,u,w,(),(),(),y,z,(),(),(),()),(au,(),(),(),aw,ay,az,(),(),(),bu,bw,(),(),(),()),bz,(cu,cw,(),(),cy,cz,()),du,dw,()))
def ZCp:StD HU→ZdM:=fun ((_,_,_,_,_,_),((a,b,c,d,e,f,g,h,i,_),(j,k,l,m,n,o,_),(p,_,_,_,q,r,s,_,_,_,t,u,_,_,_,_),(w,_,_,_,y,z,au,_,_,_,aw,ay,_,_,_,_),az,(bu,bw,_,_,bz,cu,_),cw,cy,_))=>(a,b,c,d,e,f,g,h,i,j,k,l,m,n,o,p,q,r,s,t,u,w,y,z,au,aw,ay,az,bu,bw,bz,cu,cw,cy)
def Zh2:ZdM→StD HU:=fun (a,b,c,d,e,f,g,h,i,j,k,l,m,n,o,p,q,r,s,t,u,w,y,z,au,aw,ay,az,bu,bw,bz,cu,cw,cy)=>(((),(),(),(),(),()),((a,b,c,d,e,f,g,h,i,()),(j,k,l,m,n,o,()),(p,(),(),(),q,r,s,(),(),(),t,u,(),(),(),()),(w,(),(),(),y,z,au,(),(),(),aw,ay,(),(),(),()),az,(bu,bw,(),(),bz,cu,()),cw,cy,()))
theorem ZGu (x:WY):rdX ZvN keeps 8 ⟨88,108,keeps 88,0⟩ 2 (bodyX 88 2) 0 Zg9 (sT Ha (Zly x)) (sH Ha (Zly x)) (rdO (fun T h=>(rdS Ha T h).map Zsc) (getE 4 HU ZCp))=Zk5 x:=by kernel_rfl
def Y9:StS:=⟨[(0,.int .i64),(3,.sl tEn),(5,.ptr 0 0),(6,.ptr 1 0),(8,.ptr 2 0),(9,.ptr 3 0),(10,.ptr 4 0),(12,.int .i64)],[(0,.box [.int .i64,.int .i64,.int .i64,.int .i64,.int .i64,.int .i64,.int .i64,.int .i64,.int .i64]),(1,.box [.bool,.sl tI,.sl tI,.sl tI,.int .i64,.int .i64]),(2,.box [.bool,.nil,.nil,.nil,.int .i64,.int .i64,.bool,.nil,.nil,.nil,.int .i64,.int .i64,.nil,.nil,.nil]),(3,.box [.bool,.nil,.nil,.nil,.int .i64,.int .i64,.bool,.nil,.nil,.nil,.int .i64,.int .i64,.nil,.nil,.nil]),(4,.box [.bool,.sl tI,.row 5,.row 6,.int .i64,.int .i64]),(5,.row tI),(6,.row tI)],7⟩
def HT:StS:=⟨[(5,.ptr 0 0),(6,.ptr 1 0),(8,.ptr 2 0),(9,.ptr 3 0),(10,.ptr 4 0)],[(0,.box [.int .i64,.int .i64,.int .i64,.int .i64,.int .i64,.int .i64,.int .i64,.int .i64,.int .i64]),(1,.box [.bool,.sl tI,.sl tI,.sl tI,.int .i64,.int .i64]),(2,.box [.bool,.nil,.nil,.nil,.int .i64,.int .i64,.bool,.nil,.nil,.nil,.int .i64,.int .i64,.nil,.nil,.nil]),(3,.box [.bool,.nil,.nil,.nil,.int .i64,.int .i64,.bool,.nil,.nil,.nil,.int .i64,.int .i64,.nil,.nil,.nil]),(4,.box [.bool,.sl tI,.row 5,.row 6,.int .i64,.int .i64]),(5,.row tI),(6,.row tI)],7⟩
def Zsb:StD Y9→WX:=fun ((a,b,_,_,_,_,_,c,_),((d,e,f,g,h,i,j,k,l,_),(m,n,o,p,q,r,_),(s,_,_,_,t,u,w,_,_,_,y,z,_,_,_,_),(au,_,_,_,aw,ay,az,_,_,_,bu,bw,_,_,_,_),(bz,cu,_,_,cw,cy,_),cz,du,_))=>(a,b,c,d,e,f,g,h,i,j,k,l,m,n,o,p,q,r,s,t,u,w,y,z,au,aw,ay,az,bu,bw,bz,cu,cw,cy,cz,du)
def Zlx:WX→StD Y9:=fun (a,b,c,d,e,f,g,h,i,j,k,l,m,n,o,p,q,r,s,t,u,w,y,z,au,aw,ay,az,bu,bw,bz,cu,cw,cy,cz,du)=>((a,b,(),(),(),(),(),c,()),((d,e,f,g,h,i,j,k,l,()),(m,n,o,p,q,r,()),(s,(),(),(),t,u,w,(),(),(),y,z,(),(),(),()),(au,(),(),(),aw,ay,az,(),(),(),bu,bw,(),(),(),()),(bz,cu,(),(),cw,cy,()),cz,du,()))
def ZCo:StD HT→ZdL:=fun ((_,_,_,_,_,_),((a,b,c,d,e,f,g,h,i,_),(j,k,l,m,n,o,_),(p,_,_,_,q,r,s,_,_,_,t,u,_,_,_,_),(w,_,_,_,y,z,au,_,_,_,aw,ay,_,_,_,_),(az,bu,_,_,bw,bz,_),cu,cw,_))=>(a,b,c,d,e,f,g,h,i,j,k,l,m,n,o,p,q,r,s,t,u,w,y,z,au,aw,ay,az,bu,bw,bz,cu,cw)
def Zh1:ZdL→StD HT:=fun (a,b,c,d,e,f,g,h,i,j,k,l,m,n,o,p,q,r,s,t,u,w,y,z,au,aw,ay,az,bu,bw,bz,cu,cw)=>(((),(),(),(),(),()),((a,b,c,d,e,f,g,h,i,()),(j,k,l,m,n,o,()),(p,(),(),(),q,r,s,(),(),(),t,u,(),(),(),()),(w,(),(),(),y,z,au,(),(),(),aw,ay,(),(),(),()),(az,bu,(),(),bw,bz,()),cu,cw,()))
theorem ZGt (x:WX):rdX ZvN keeps 8 ⟨88,108,keeps 88,0⟩ 2 (bodyX 88 2) 0 Zg9 (sT Y9 (Zlx x)) (sH Y9 (Zlx x)) (rdO (fun T h=>(rdS Y9 T h).map Zsb) (getE 4 HT ZCo))=Zk4 x:=by kernel_rfl
def ZxJ:Nat→Tm→Prog (Nat×Tm):=(varP 0 (fun T h=>(rdS Y9 T h).map Zsb) ZfJ (altE 4 HT Zh1) (varP 0 (fun T h=>(rdS Ha T h).map Zsc) ZfK (altE 4 HU Zh2) (fun _ _=>.fail)))
def Zwf:Lpc:=⟨88,2,108,(fun base T=>.norm base (Zg9 0) T (ZxJ base)),by kernel_rfl,by kernel_rfl,(loopU Zee [Zhe] 40 1048576 8 (keep:=Zg9) (q:=ZxJ) (by kernel_rfl) (Zp (s:=Y9) (un:=Zlx) (by rfl) (fun _=>rfl) (Zi (s:=HT) (un:=Zh1) (by rfl) (fun _=>rfl)) (step:=Zk4) ZGt (fun _ _ e=>⟨_,e⟩) (Zh 4 HT Zh1) (Zp (s:=Ha) (un:=Zly) (by rfl) (fun _=>rfl) (Zi (s:=HU) (un:=Zh2) (by rfl) (fun _=>rfl)) (step:=Zk5) ZGu (fun _ _ e=>⟨_,e⟩) (Zh 4 HU Zh2) (ZA.fail _ _))))⟩
theorem ZQo (a0:Int) (a1:A) (a2:E) (a3:List En):evGX (cxU Zee [Zhe,Zwf] 40 1048576) keeps 8 88 ZDh (.dat tO) ((a0,a1,a2,a3,()):(Int×(A×(E×((List En)×Unit)))))=ZzB a0 a1 a2 a3:=by kernel_rfl
def ZDB:List AV→Prog AV:=conP true ZDh (.dat tO) ZrJ
theorem ZQU:Zd Tryz.prog 88 ZDB:=Zc (calU Zee [Zhe,Zwf] 40 1048576 8 88) true (by rfl) (by rfl) (fun x r e=>(Zg _ _ _ _ _ _ _).trans ((ZQo x.1 x.2.1 x.2.2.1 x.2.2.2.1).trans e)) (.inl rfl)
end
section
open Go.Proofs Go.Proofs.YtbdcblpjemmipaaGreat
def ZJB:List Sh:=[.dat (.int .i64)]
def ZM5:List Con:=[]
def ZOC (a0:Int):Option I:=
 some (a0,a0)
theorem ZUJ (a0:Int):evGX (cxU ZM5 [] 40 1048576) keeps 8 20 ZJB (.dat tI) ((a0,()):(Int×Unit))=ZOC a0:=by kernel_rfl
def ZXw (x:Int×Unit):Option I:=ZOC x.1
def Zzr:List AV→Prog AV:=conP true ZJB (.dat tI) ZXw
theorem ZKR:Zd Tryz.prog 20 Zzr:=Zc (calU ZM5 [] 40 1048576 8 20) true (by rfl) (by rfl) (fun x r e=>(Zg _ _ _ _ _ _ _).trans ((ZUJ x.1).trans e)) (.inl rfl)
end
section
open Go.Proofs Go.Proofs.YtbdcblpjemmipaaGreat
def ZJy:List Sh:=[]
def ZM2:List Con:=[]
def ZOB:Option I:=
 some (-2147483648,2147483647)
theorem ZUG:evGX (cxU ZM2 [] 40 1048576) keeps 8 84 ZJy (.dat tI) (():Unit)=ZOB:=by kernel_rfl
def ZXv (x:Unit):Option I:=ZOB
def ZJR:List AV→Prog AV:=conP true ZJy (.dat tI) ZXv
theorem ZVd:Zd Tryz.prog 84 ZJR:=Zc (calU ZM2 [] 40 1048576 8 84) true (by rfl) (by rfl) (fun x r e=>(Zg _ _ _ _ _ _ _).trans ((ZUG ).trans e)) (.inl rfl)
end
section
open Go.Proofs Go.Proofs.YtbdcblpjemmipaaGreat
def ZJw:List Sh:=[.dat tA,.dat tE]
def ZM0:List Con:=[⟨116,ZMs,ZWa⟩,⟨47,Qr,QV⟩,⟨83,Zox,Zu1⟩]
theorem ZUE (a0:A) (a1:E):evGX (cxU ZM0 [] 40 1048576) keeps 8 85 ZJw (.dat tO) ((a0,a1,()):(A×(E×Unit)))=ZFF a0 a1:=by kernel_rfl
def ZJP:List AV→Prog AV:=conP true ZJw (.dat tO) Zx2
theorem ZVb:Zd Tryz.prog 85 ZJP:=Zc (calU ZM0 [] 40 1048576 8 85) true (by rfl) (by rfl) (fun x r e=>(Zg _ _ _ _ _ _ _).trans ((ZUE x.1 x.2.1).trans e)) (.inl rfl)
end
section
open Go.Proofs Go.Proofs.YtbdcblpjemmipaaGreat
def Zza:List Sh:=[.dat tA,.dat tE]
def ZBL:List Con:=[⟨119,ZrU,ZAh⟩,⟨122,Zzs,ZN7⟩]
theorem ZNR (a0:A) (a1:E):evGX (cxU ZBL [] 40 1048576) keeps 8 89 Zza (.dat tO) ((a0,a1,()):(A×(E×Unit)))=ZuI a0 a1:=by kernel_rfl
def Zzp:List AV→Prog AV:=conP true Zza (.dat tO) Zow
theorem ZN5:Zd Tryz.prog 89 Zzp:=Zc (calU ZBL [] 40 1048576 8 89) true (by rfl) (by rfl) (fun x r e=>(Zg _ _ _ _ _ _ _).trans ((ZNR x.1 x.2.1).trans e)) (.inl rfl)
end
section
open Go.Proofs Go.Proofs.YtbdcblpjemmipaaGreat
def ZDi:List Sh:=[.dat tA,.dat tE,.dat (.int .i64)]
def ZH8:List Con:=[⟨123,ZBh,ZPn⟩,⟨118,ZlQ,Zqq⟩,⟨47,Qr,QV⟩,⟨83,Zox,Zu1⟩]
theorem ZQp (a0:A) (a1:E) (a2:Int):evGX (cxU ZH8 [] 40 1048576) keeps 8 90 ZDi (.dat tE) ((a0,a1,a2,()):(A×(E×(Int×Unit))))=ZsI a0 a1 a2:=by kernel_rfl
def ZDC:List AV→Prog AV:=conP true ZDi (.dat tE) Zfk
theorem ZQV:Zd Tryz.prog 90 ZDC:=Zc (calU ZH8 [] 40 1048576 8 90) true (by rfl) (by rfl) (fun x r e=>(Zg _ _ _ _ _ _ _).trans ((ZQp x.1 x.2.1 x.2.2.1).trans e)) (.inl rfl)
end
section
open Go.Proofs Go.Proofs.YtbdcblpjemmipaaGreat
def ZJx:List Sh:=[.dat (.int .i64)]
def ZM1:List Con:=[]
theorem ZUF (a0:Int):evGX (cxU ZM1 [] 40 1048576) keeps 8 91 ZJx (.dat (.int .i64)) ((a0,()):(Int×Unit))=ZFG a0:=by kernel_rfl
def ZJQ:List AV→Prog AV:=conP true ZJx (.dat (.int .i64)) ZrK
theorem ZVc:Zd Tryz.prog 91 ZJQ:=Zc (calU ZM1 [] 40 1048576 8 91) true (by rfl) (by rfl) (fun x r e=>(Zg _ _ _ _ _ _ _).trans ((ZUF x.1).trans e)) (.inl rfl)
end
section
open Go.Proofs Go.Proofs.YtbdcblpjemmipaaGreat
def ZJv:List Sh:=[.dat tU,.dat (.int .i64),.dat (.int .i64),.dat tE,.dat (.sl tEn)]
def ZMZ:List Con:=[⟨20,Zzr,ZKR⟩,⟨83,Zox,Zu1⟩,⟨84,ZJR,ZVd⟩,⟨85,ZJP,ZVb⟩,⟨86,ZDA,ZQT⟩,⟨88,ZDB,ZQU⟩,⟨89,Zzp,ZN5⟩,⟨90,ZDC,ZQV⟩,⟨91,ZJQ,ZVc⟩,⟨66,ZrT,ZAf⟩,⟨118,ZlQ,Zqq⟩,⟨47,Qr,QV⟩,⟨19,ZaB,Zcp⟩]
theorem ZUD (a0:U) (a1 a2:Int) (a3:E) (a4:List En):evGX (cxU ZMZ [] 40 1048576) keeps 8 56 ZJv (.dat tO) ((a0,a1,a2,a3,a4,()):(U×(Int×(Int×(E×((List En)×Unit))))))=Zkw a0 a1 a2 a3 a4:=by kernel_rfl
def Zzo:List AV→Prog AV:=conP true ZJv (.dat tO) Zew
theorem ZKQ:Zd Tryz.prog 56 Zzo:=Zc (calU ZMZ [] 40 1048576 8 56) true (by rfl) (by rfl) (fun x r e=>(Zg _ _ _ _ _ _ _).trans ((ZUD x.1 x.2.1 x.2.2.1 x.2.2.2.1 x.2.2.2.2.1).trans e)) (.inl rfl)
end
section
open Go.Proofs Go.Proofs.YtbdcblpjemmipaaGreat
def ZHq:List Sh:=[.dat (.sl tI),.dat (.int .i64)]
def ZK0:List Con:=[⟨95,ZaC,Zcq⟩]
theorem ZSx (a0:List I) (a1:Int):evGX (cxU ZK0 [] 40 1048576) keeps 8 94 ZHq (.dat tI) ((a0,a1,()):((List I)×(Int×Unit)))=ZpY a0 a1:=by kernel_rfl
def Zqe:List AV→Prog AV:=conP true ZHq (.dat tI) Zam
theorem Zw0:Zd Tryz.prog 94 Zqe:=Zc (calU ZK0 [] 40 1048576 8 94) true (by rfl) (by rfl) (fun x r e=>(Zg _ _ _ _ _ _ _).trans ((ZSx x.1 x.2.1).trans e)) (.inl rfl)
end
section
open Go.Proofs Go.Proofs.YtbdcblpjemmipaaGreat
def ZBa:List Sh:=[.dat (.sl tEn),.dat tEn]
def Zmn:Nat→List Nat:=fun c=>bif c.beq 0 then [0,3,6] else [0,3,6]
def ZoP:List Con:=[⟨61,ZrR,ZBH⟩]
def K2:StS:=⟨[(0,.sl tEn),(3,.ptr 0 0),(6,.int .i64)],[(0,.box [.int .i64,.bool,.int .i64,.int .i64,.int .i64,.int .i64])],1⟩
def Yv:StS:=⟨[(0,.sl tEn),(3,.ptr 0 0),(6,.int .i64)],[(0,.box [.int .i64,.bool,.int .i64,.int .i64,.int .i64,.int .i64])],1⟩
def Zq7:StD K2→KH:=fun ((a,_,b,_),((c,d,e,f,g,h,_),_))=>(a,b,c,d,e,f,g,h)
def ZjT:KH→StD K2:=fun (a,b,c,d,e,f,g,h)=>((a,(),b,()),((c,d,e,f,g,h,()),()))
def ZAH:StD Yv→Jf:=fun ((a,_,b,_),((c,d,e,f,g,h,_),_))=>(a,b,c,d,e,f,g,h)
def ZgC:Jf→StD Yv:=fun (a,b,c,d,e,f,g,h)=>((a,(),b,()),((c,d,e,f,g,h,()),()))
theorem ZEI (x:KH):rdX (cxU ZoP [] 40 1048576) keeps 8 ⟨58,36,keeps 58,0⟩ 0 (bodyX 58 0) 0 Zmn (sT K2 (ZjT x)) (sH K2 (ZjT x)) (rdO (fun T h=>(rdS K2 T h).map Zq7) (getE 2 Yv ZAH))=Zjt x:=by kernel_rfl
def Zwz:Nat→Tm→Prog (Nat×Tm):=(varP 0 (fun T h=>(rdS K2 T h).map Zq7) V2 (altE 2 Yv ZgC) (fun _ _=>.fail))
def Zug:Lpc:=⟨58,0,36,(fun base T=>.norm base (Zmn 0) T (Zwz base)),by kernel_rfl,by kernel_rfl,(loopU ZoP [] 40 1048576 8 (keep:=Zmn) (q:=Zwz) (by kernel_rfl) (Zp (s:=K2) (un:=ZjT) (by rfl) (fun _=>rfl) (Zi (s:=Yv) (un:=ZgC) (by rfl) (fun _=>rfl)) (step:=Zjt) ZEI (fun _ _ e=>⟨_,e⟩) (Zh 2 Yv ZgC) (ZA.fail _ _)))⟩
theorem ZO8 (a0:List En) (a1:En):evGX (cxU ZoP [Zug] 40 1048576) keeps 8 58 ZBa (.tup [.dat (.int .i64),.dat .bool]) ((a0,a1,()):((List En)×(En×Unit)))=ZgH a0 a1:=by kernel_rfl
def Znj:List AV→Prog AV:=conP false ZBa (.tup [.dat (.int .i64),.dat .bool]) K9
theorem Zth:Zd Tryz.prog 58 Znj:=Zc (calU ZoP [Zug] 40 1048576 8 58) false (by rfl) (by rfl) (fun x r e=>(Zg _ _ _ _ _ _ _).trans ((ZO8 x.1 x.2.1).trans e)) (.inr fun _=>rfl)
end
section
open Go.Proofs Go.Proofs.YtbdcblpjemmipaaGreat
def ZHr:List Sh:=[.dat (.sl tEn),.dat (.sl tEn)]
def Zpf:Nat→List Nat:=fun c=>bif c.beq 0 then [0,1,5] else [0]
def Ztp:List Con:=[⟨47,Qr,QV⟩,⟨58,Znj,Zth⟩,⟨19,ZaB,Zcp⟩]
def VL:StS:=⟨[(0,.row 0),(1,.sl tEn),(5,.int .i64)],[(0,.row tEn)],1⟩
def Wm:StS:=⟨[(0,.row 0)],[(0,.row tEn)],1⟩
def ZtV:StD VL→Vm:=fun ((_,a,b,_),(c,_))=>(a,b,c)
def Zm1:Vm→StD VL:=fun (a,b,c)=>(((),a,b,()),(c,()))
def ZDV (d:StD Wm):KC:=(d.2.1)
def ZjN (x:KC):StD Wm:=(((),()),(x,()))
theorem ZIV (x:Vm):rdX (cxU Ztp [] 40 1048576) keeps 8 ⟨28,66,keeps 28,0⟩ 0 (bodyX 28 0) 0 Zpf (sT VL (Zm1 x)) (sH VL (Zm1 x)) (rdO (fun T h=>(rdS VL T h).map ZtV) (getE 2 Wm ZDV))=ZmI x:=by kernel_rfl
def ZzY:Nat→Tm→Prog (Nat×Tm):=(varP 0 (fun T h=>(rdS VL T h).map ZtV) ZgP (altE 2 Wm ZjN) (fun _ _=>.fail))
def Zxr:Lpc:=⟨28,0,66,(fun base T=>.norm base (Zpf 0) T (ZzY base)),by kernel_rfl,by kernel_rfl,(loopU Ztp [] 40 1048576 8 (keep:=Zpf) (q:=ZzY) (by kernel_rfl) (Zp (s:=VL) (un:=Zm1) (by rfl) (fun _=>rfl) (Zi (s:=Wm) (un:=ZjN) (by rfl) (fun _=>rfl)) (step:=ZmI) ZIV (fun _ _ e=>⟨_,e⟩) (Zh 2 Wm ZjN) (ZA.fail _ _)))⟩
theorem ZSy (a0 a1:List En):evRX (cxU Ztp [Zxr] 40 1048576) keeps 8 28 ZHr tEn ((a0,a1,()):((List En)×((List En)×Unit)))=Zfe a0 a1:=by kernel_rfl
def Zqf:List AV→Prog AV:=conR false ZHr tEn Zhs
theorem Zw1:Zd Tryz.prog 28 Zqf:=Zkn (calU Ztp [Zxr] 40 1048576 8 28) false (by rfl) (fun x r e=>(ZuE _ _ _ _ _ _ _).trans ((ZSy x.1 x.2.1).trans e)) (.inr (by rfl))
end
section
open Go.Proofs Go.Proofs.YtbdcblpjemmipaaGreat
def ZDm:List Sh:=[.dat tI,.dat tI,.dat (.sl (.int .i64))]
def Zmo:Nat→List Nat:=fun c=>bif c.beq 0 then [2,3,6,7,8,9,10] else [3,6,7,8,9]
def ZqB:List Con:=[⟨47,Qr,QV⟩,⟨19,ZaB,Zcp⟩]
def K3:StS:=⟨[(2,.sl (.int .i64)),(3,.ptr 0 0),(6,.ptr 1 0),(7,.ptr 2 0),(8,.int .i64),(9,.int .i64),(10,.int .i64)],[(0,.box [.int .i64,.int .i64]),(1,.box [.int .i64,.int .i64]),(2,.box [.int .i64,.int .i64])],3⟩
def Yw:StS:=⟨[(3,.ptr 0 0),(6,.ptr 1 0),(7,.ptr 2 0),(8,.int .i64),(9,.int .i64)],[(0,.box [.int .i64,.int .i64]),(1,.box [.int .i64,.int .i64]),(2,.box [.int .i64,.int .i64])],3⟩
def Zq8:StD K3→KK:=fun ((a,_,_,_,b,c,d,_),((e,f,_),(g,h,_),(i,j,_),_))=>(a,b,c,d,e,f,g,h,i,j)
def ZjY:KK→StD K3:=fun (a,b,c,d,e,f,g,h,i,j)=>((a,(),(),(),b,c,d,()),((e,f,()),(g,h,()),(i,j,()),()))
def ZAI:StD Yw→Jg:=fun ((_,_,_,a,b,_),((c,d,_),(e,f,_),(g,h,_),_))=>(a,b,c,d,e,f,g,h)
def ZgD:Jg→StD Yw:=fun (a,b,c,d,e,f,g,h)=>(((),(),(),a,b,()),((c,d,()),(e,f,()),(g,h,()),()))
theorem ZEJ (x:KK):rdX (cxU ZqB [] 40 1048576) keeps 8 ⟨102,66,keeps 102,0⟩ 0 (bodyX 102 0) 0 Zmo (sT K3 (ZjY x)) (sH K3 (ZjY x)) (rdO (fun T h=>(rdS K3 T h).map Zq8) (getE 2 Yw ZAI))=Zju x:=by kernel_rfl
def ZwA:Nat→Tm→Prog (Nat×Tm):=(varP 0 (fun T h=>(rdS K3 T h).map Zq8) ZbI (altE 2 Yw ZgD) (fun _ _=>.fail))
def Zuh:Lpc:=⟨102,0,66,(fun base T=>.norm base (Zmo 0) T (ZwA base)),by kernel_rfl,by kernel_rfl,(loopU ZqB [] 40 1048576 8 (keep:=Zmo) (q:=ZwA) (by kernel_rfl) (Zp (s:=K3) (un:=ZjY) (by rfl) (fun _=>rfl) (Zi (s:=Yw) (un:=ZgD) (by rfl) (fun _=>rfl)) (step:=Zju) ZEJ (fun _ _ e=>⟨_,e⟩) (Zh 2 Yw ZgD) (ZA.fail _ _)))⟩
theorem ZQt (a0 a1:I) (a2:List Int):evGX (cxU ZqB [Zuh] 40 1048576) keeps 8 102 ZDm (.dat tI) ((a0,a1,a2,()):(I×(I×((List Int)×Unit))))=ZsK a0 a1 a2:=by kernel_rfl
def ZuB:List AV→Prog AV:=conP true ZDm (.dat tI) ZiL
theorem ZE7:Zd Tryz.prog 102 ZuB:=Zc (calU ZqB [Zuh] 40 1048576 8 102) true (by rfl) (by rfl) (fun x r e=>(Zg _ _ _ _ _ _ _).trans ((ZQt x.1 x.2.1 x.2.2.1).trans e)) (.inl rfl)
end
def eqE (d e:En):Bool:=d.1==e.1&&(d.2.1==e.2.1&&(d.2.2.1==e.2.2.1&&(d.2.2.2.1==e.2.2.2.1&&(d.2.2.2.2.1==e.2.2.2.2.1&&d.2.2.2.2.2==e.2.2.2.2.2))))
theorem ZWu {d e:En}:eqE d e=true↔d=e:=by
 obtain ⟨d1,d2,d3,d4,d5,d6⟩:=d
 obtain ⟨e1,e2,e3,e4,e5,e6⟩:=e
 simp only [eqE,Bool.and_eq_true,beq_iff_eq,Prod.mk.injEq]
theorem ZXa {f:Nat→Unit→En→Option (Unit⊕(Unit⊕Bool))} {b:List En} (h:∀ j d,f j () d=optC b[j]? none fun e=>bif !(eqE d e) then some (.inr (.inr false)) else some (.inl ())) :
  ∀ (r:List En) (j:Nat),j+r.length=b.length→Zl f (fun _=>some (.inl ())) j r ()=bif decide (r=b.drop j) then some (.inl ()) else some (.inr false)
 | [],j,hj=>by
  rw [List.drop_eq_nil_of_le (by simp only [List.length_nil] at hj;omega)];rfl
 | d::r,j,hj=>by
  simp only [List.length_cons] at hj
  have hlt:j<b.length:=by omega
  have hd:=h j d
  rw [List.getElem?_eq_getElem hlt] at hd
  simp only [Zb] at hd
  rw [List.drop_eq_getElem_cons hlt]
  generalize b[j]=x at hd
  cases he:eqE d x
  ·rw [he] at hd
   have:¬ (d::r=x::b.drop (j+1)):=fun q=>by
    have:=ZWu.2 (List.cons.inj q).1
    rw [he] at this;cases this
   rw [decide_eq_false this,Zl,hd];rfl
  ·rw [he] at hd
   obtain rfl:=ZWu.1 he
   rw [Qk hd,ZXa h r (j+1) (by omega)]
   congr 1
   rw [decide_eq_decide]
   exact ⟨fun q=>by rw [q],fun q=>(List.cons.inj q).2⟩
theorem ZYU {g:Option Bool} {a b:List En} {f:Nat→Unit→En→Option (Unit⊕(Unit⊕Bool))} (h:∀ j d,f j () d=optC b[j]? none fun e=>bif !(eqE d e) then some (.inr (.inr false)) else some (.inl ()))
  (hg:g=bif (a.length:Int) !=(b.length:Int) then some false else optC (Zl f (fun _=>some (.inl ())) 0 a ()) none fun d4=>Sum.elim (fun _=>some true) (fun e5=>some e5) d4):g=some (decide (a=b)):=by
 rw [hg]
 by_cases hl:a.length=b.length
 ·rw [show ((a.length:Int) !=(b.length:Int))=false by simp [hl],ZXa h a 0 (by omega),List.drop_zero]
  cases decide (a=b)<;>rfl
 ·rw [show ((a.length:Int) !=(b.length:Int))=true by simp;omega,decide_eq_false (fun e=>hl (by rw [e]))];rfl
theorem ZUl (a b:List En) (ha:a.length<2305843009213693952):Zi2 a b=some (decide (a=b)):=
 ZYU (f:=fun i _ d=>ZbP b a i d) (fun j d=>rfl) (by
  unfold Zi2
  rw [Ztc b a () (by omega)];rfl)
section
open Go.Proofs Go.Proofs.YtbdcblpjemmipaaGreat
def ZA7:List Sh:=[.dat (.sl tI),.dat (.sl tI)]
def ZeW:Nat→List Nat:=fun c=>bif c.beq 0 then [0,1,5,6] else [5]
def ZoM:List Con:=[⟨94,Zqe,Zw0⟩,⟨19,ZaB,Zcp⟩]
def JY:StS:=⟨[(0,.sl tI),(1,.sl tI),(5,.row 0),(6,.int .i64)],[(0,.row tI)],1⟩
def Kk:StS:=⟨[(5,.row 0)],[(0,.row tI)],1⟩
def ZpT:StD JY→JF:=fun ((a,b,_,c,_),(d,_))=>(a,b,c,d)
def ZhS:JF→StD JY:=fun (a,b,c,d)=>((a,b,(),c,()),(d,()))
def Zzy (d:StD Kk):QR:=(d.2.1)
def ZfB (x:QR):StD Kk:=(((),()),(x,()))
theorem ZCO (x:JF):rdX (cxU ZoM [] 40 1048576) keeps 8 ⟨124,25,keeps 124,0⟩ 0 (bodyX 124 0) 0 ZeW (sT JY (ZhS x)) (sH JY (ZhS x)) (rdO (fun T h=>(rdS JY T h).map ZpT) (getE 2 Kk Zzy))=ZhE x:=by kernel_rfl
def Zuk:Nat→Tm→Prog (Nat×Tm):=(varP 0 (fun T h=>(rdS JY T h).map ZpT) ZdF (altE 2 Kk ZfB) (fun _ _=>.fail))
def ZsY:Lpc:=⟨124,0,25,(ownP [] [(5,tI)] (ZeW 0) (fun base T=>.norm base (ZeW 0) T (Zuk base))),by kernel_rfl,by kernel_rfl,(WQ (loopU ZoM [] 40 1048576 8 (keep:=ZeW) (q:=Zuk) (by kernel_rfl) (Zp (s:=JY) (un:=ZhS) (by rfl) (fun _=>rfl) (Zi (s:=Kk) (un:=ZfB) (by rfl) (fun _=>rfl)) (step:=ZhE) ZCO (fun _ _ e=>⟨_,e⟩) (Zh 2 Kk ZfB) (ZA.fail _ _))))⟩
theorem ZO5 (a0 a1:List I):evGX (cxU ZoM [ZsY] 40 1048576) keeps 8 124 ZA7 (.dat (.sl tI)) ((a0,a1,()):((List I)×((List I)×Unit)))=Zqk a0 a1:=by kernel_rfl
def ZBg:List AV→Prog AV:=conP true ZA7 (.dat (.sl tI)) ZlO
theorem ZPm:Zd Tryz.prog 124 ZBg:=Zc (calU ZoM [ZsY] 40 1048576 8 124) true (by rfl) (by rfl) (fun x r e=>(Zg _ _ _ _ _ _ _).trans ((ZO5 x.1 x.2.1).trans e)) (.inl rfl)
end
section
open Go.Proofs Go.Proofs.YtbdcblpjemmipaaGreat
def Zy8:List Sh:=[.dat (.sl tI),.dat (.sl tI),.dat (.sl (.int .i64))]
def Zd3:Nat→List Nat:=fun c=>bif c.beq 0 then [0,1,2,7,8] else [7]
def Znx:List Con:=[⟨94,Zqe,Zw0⟩,⟨102,ZuB,ZE7⟩]
def Jl:StS:=⟨[(0,.sl tI),(1,.sl tI),(2,.sl (.int .i64)),(7,.row 0),(8,.int .i64)],[(0,.row tI)],1⟩
def J6:StS:=⟨[(7,.row 0)],[(0,.row tI)],1⟩
def ZoX:StD Jl→Jc:=fun ((a,b,c,_,d,_),(e,_))=>(a,b,c,d,e)
def Zgw:Jc→StD Jl:=fun (a,b,c,d,e)=>((a,b,c,(),d,()),(e,()))
def Zyd (d:StD J6):QB:=(d.2.1)
def Ze9 (x:QB):StD J6:=(((),()),(x,()))
theorem ZAR (x:Jc):rdX (cxU Znx [] 40 1048576) keeps 8 ⟨125,28,keeps 125,0⟩ 0 (bodyX 125 0) 0 Zd3 (sT Jl (Zgw x)) (sH Jl (Zgw x)) (rdO (fun T h=>(rdS Jl T h).map ZoX) (getE 2 J6 Zyd))=Zgi x:=by kernel_rfl
def Zs5:Nat→Tm→Prog (Nat×Tm):=(varP 0 (fun T h=>(rdS Jl T h).map ZoX) Zc7 (altE 2 J6 Ze9) (fun _ _=>.fail))
def Zrh:Lpc:=⟨125,0,28,(ownP [] [(7,tI)] (Zd3 0) (fun base T=>.norm base (Zd3 0) T (Zs5 base))),by kernel_rfl,by kernel_rfl,(WQ (loopU Znx [] 40 1048576 8 (keep:=Zd3) (q:=Zs5) (by kernel_rfl) (Zp (s:=Jl) (un:=Zgw) (by rfl) (fun _=>rfl) (Zi (s:=J6) (un:=Ze9) (by rfl) (fun _=>rfl)) (step:=Zgi) ZAR (fun _ _ e=>⟨_,e⟩) (Zh 2 J6 Ze9) (ZA.fail _ _))))⟩
theorem ZNP (a0 a1:List I) (a2:List Int):evGX (cxU Znx [Zrh] 40 1048576) keeps 8 125 Zy8 (.dat (.sl tI)) ((a0,a1,a2,()):((List I)×((List I)×((List Int)×Unit))))=ZoC a0 a1 a2:=by kernel_rfl
def Zzl:List AV→Prog AV:=conP true Zy8 (.dat (.sl tI)) ZiK
theorem ZN3:Zd Tryz.prog 125 Zzl:=Zc (calU Znx [Zrh] 40 1048576 8 125) true (by rfl) (by rfl) (fun x r e=>(Zg _ _ _ _ _ _ _).trans ((ZNP x.1 x.2.1 x.2.2.1).trans e)) (.inl rfl)
end
section
open Go.Proofs Go.Proofs.YtbdcblpjemmipaaGreat
def ZDa:List Sh:=[.dat tE,.dat tE]
def ZH5:List Con:=[⟨124,ZBg,ZPm⟩]
theorem ZQh (a0 a1:E):evGX (cxU ZH5 [] 40 1048576) keeps 8 92 ZDa (.dat tE) ((a0,a1,()):(E×(E×Unit)))=ZnQ a0 a1:=by kernel_rfl
def Zuy:List AV→Prog AV:=conP true ZDa (.dat tE) ZiH
theorem ZE4:Zd Tryz.prog 92 Zuy:=Zc (calU ZH5 [] 40 1048576 8 92) true (by rfl) (by rfl) (fun x r e=>(Zg _ _ _ _ _ _ _).trans ((ZQh x.1 x.2.1).trans e)) (.inl rfl)
end
section
open Go.Proofs Go.Proofs.YtbdcblpjemmipaaGreat
def ZA6:List Sh:=[.dat tE,.dat tE,.dat (.sl (.int .i64))]
def ZFb:List Con:=[⟨92,Zuy,ZE4⟩,⟨125,Zzl,ZN3⟩]
theorem ZO4 (a0 a1:E) (a2:List Int):evGX (cxU ZFb [] 40 1048576) keeps 8 93 ZA6 (.dat tE) ((a0,a1,a2,()):(E×(E×((List Int)×Unit))))=ZlU a0 a1 a2:=by kernel_rfl
def ZBf:List AV→Prog AV:=conP true ZA6 (.dat tE) ZwN
theorem ZPl:Zd Tryz.prog 93 ZBf:=Zc (calU ZFb [] 40 1048576 8 93) true (by rfl) (by rfl) (fun x r e=>(Zg _ _ _ _ _ _ _).trans ((ZO4 x.1 x.2.1 x.2.2.1).trans e)) (.inl rfl)
end
section
open Go.Proofs Go.Proofs.YtbdcblpjemmipaaGreat
def ZA5:List Sh:=[.dat tU,.dat (.int .i64)]
def ZfY:Nat→List Nat:=fun c=>bif c.beq 0 then [1,2,4,5,6] else [2,4,5]
def ZfZ:Nat→List Nat:=fun c=>bif c.beq 0 then [2,4,5,7] else [2,4,5]
def Zf0:Nat→List Nat:=fun c=>bif c.beq 0 then [2,4,5,8] else [4,5]
def Zbd:List Con:=[⟨20,Zzr,ZKR⟩]
def KV:StS:=⟨[(1,.int .i64),(2,.ptr 0 0),(4,.ptr 1 0),(5,.ptr 2 0),(6,.int .i64)],[(0,.box [.sl (.int .i64),.sl (.int .i64),.int .i64,.sl tC]),(1,.box [.bool,.nil,.nil,.nil,.int .i64,.int .i64]),(2,.box [.bool,.row 3,.nil,.nil,.int .i64,.int .i64]),(3,.row tI)],4⟩
def Yo:StS:=⟨[(2,.ptr 0 0),(4,.ptr 1 0),(5,.ptr 2 0)],[(0,.box [.sl (.int .i64),.sl (.int .i64),.int .i64,.sl tC]),(1,.box [.bool,.nil,.nil,.nil,.int .i64,.int .i64]),(2,.box [.bool,.row 3,.nil,.nil,.int .i64,.int .i64]),(3,.row tI)],4⟩
def Zq1:StD KV→Kz:=fun ((a,_,_,_,b,_),((c,d,e,f,_),(g,_,_,_,h,i,_),(j,_,_,_,k,l,_),m,_))=>(a,b,c,d,e,f,g,h,i,j,k,l,m)
def ZjK:Kz→StD KV:=fun (a,b,c,d,e,f,g,h,i,j,k,l,m)=>((a,(),(),(),b,()),((c,d,e,f,()),(g,(),(),(),h,i,()),(j,(),(),(),k,l,()),m,()))
def ZAA:StD Yo→Zc8:=fun ((_,_,_,_),((a,b,c,d,_),(e,_,_,_,f,g,_),(h,_,_,_,i,j,_),k,_))=>(a,b,c,d,e,f,g,h,i,j,k)
def Zgt:Zc8→StD Yo:=fun (a,b,c,d,e,f,g,h,i,j,k)=>(((),(),(),()),((a,b,c,d,()),(e,(),(),(),f,g,()),(h,(),(),(),i,j,()),k,()))
theorem ZEC (x:Kz):rdX (cxU Zbd [] 40 1048576) keeps 8 ⟨55,68,keeps 55,0⟩ 0 (bodyX 55 0) 0 ZfY (sT KV (ZjK x)) (sH KV (ZjK x)) (rdO (fun T h=>(rdS KV T h).map Zq1) (getE 2 Yo ZAA))=Zjp x:=by kernel_rfl
def Zwt:Nat→Tm→Prog (Nat×Tm):=(varP 0 (fun T h=>(rdS KV T h).map Zq1) ZeA (altE 2 Yo Zgt) (fun _ _=>.fail))
def Zaa:Lpc:=⟨55,0,68,(ownP [(2,1,tI)] [] (ZfY 0) (fun base T=>.norm base (ZfY 0) T (Zwt base))),by kernel_rfl,by kernel_rfl,(WQ (loopU Zbd [] 40 1048576 8 (keep:=ZfY) (q:=Zwt) (by kernel_rfl) (Zp (s:=KV) (un:=ZjK) (by rfl) (fun _=>rfl) (Zi (s:=Yo) (un:=Zgt) (by rfl) (fun _=>rfl)) (step:=Zjp) ZEC (fun _ _ e=>⟨_,e⟩) (Zh 2 Yo Zgt) (ZA.fail _ _))))⟩
abbrev ZIh:=cxU Zbd [Zaa] 40 1048576
def KW:StS:=⟨[(2,.ptr 0 0),(4,.ptr 1 0),(5,.ptr 2 0),(7,.int .i64)],[(0,.box [.sl (.int .i64),.sl (.int .i64),.int .i64,.sl tC]),(1,.box [.bool,.nil,.nil,.nil,.int .i64,.int .i64]),(2,.box [.bool,.row 3,.row 4,.nil,.int .i64,.int .i64]),(3,.row tI),(4,.row tI)],5⟩
def Yp:StS:=⟨[(2,.ptr 0 0),(4,.ptr 1 0),(5,.ptr 2 0)],[(0,.box [.sl (.int .i64),.sl (.int .i64),.int .i64,.sl tC]),(1,.box [.bool,.nil,.nil,.nil,.int .i64,.int .i64]),(2,.box [.bool,.row 3,.row 4,.nil,.int .i64,.int .i64]),(3,.row tI),(4,.row tI)],5⟩
def Zq2:StD KW→KA:=fun ((_,_,_,a,_),((b,c,d,e,_),(f,_,_,_,g,h,_),(i,_,_,_,j,k,_),l,m,_))=>(a,b,c,d,e,f,g,h,i,j,k,l,m)
def ZjL:KA→StD KW:=fun (a,b,c,d,e,f,g,h,i,j,k,l,m)=>(((),(),(),a,()),((b,c,d,e,()),(f,(),(),(),g,h,()),(i,(),(),(),j,k,()),l,m,()))
def ZAB:StD Yp→Ja:=fun ((_,_,_,_),((a,b,c,d,_),(e,_,_,_,f,g,_),(h,_,_,_,i,j,_),k,l,_))=>(a,b,c,d,e,f,g,h,i,j,k,l)
def Zgu:Ja→StD Yp:=fun (a,b,c,d,e,f,g,h,i,j,k,l)=>(((),(),(),()),((a,b,c,d,()),(e,(),(),(),f,g,()),(h,(),(),(),i,j,()),k,l,()))
theorem ZED (x:KA):rdX ZIh keeps 8 ⟨55,68,keeps 55,0⟩ 2 (bodyX 55 2) 0 ZfZ (sT KW (ZjL x)) (sH KW (ZjL x)) (rdO (fun T h=>(rdS KW T h).map Zq2) (getE 4 Yp ZAB))=Zjq x:=by kernel_rfl
def Zwu:Nat→Tm→Prog (Nat×Tm):=(varP 0 (fun T h=>(rdS KW T h).map Zq2) ZeB (altE 4 Yp Zgu) (fun _ _=>.fail))
def Zf1:Lpc:=⟨55,2,68,(ownP [(2,2,tI)] [] (ZfZ 0) (fun base T=>.norm base (ZfZ 0) T (Zwu base))),by kernel_rfl,by kernel_rfl,(WQ (loopU Zbd [Zaa] 40 1048576 8 (keep:=ZfZ) (q:=Zwu) (by kernel_rfl) (Zp (s:=KW) (un:=ZjL) (by rfl) (fun _=>rfl) (Zi (s:=Yp) (un:=Zgu) (by rfl) (fun _=>rfl)) (step:=Zjq) ZED (fun _ _ e=>⟨_,e⟩) (Zh 4 Yp Zgu) (ZA.fail _ _))))⟩
abbrev ZIi:=cxU Zbd [Zaa,Zf1] 40 1048576
def KY:StS:=⟨[(2,.ptr 0 0),(4,.ptr 1 0),(5,.ptr 2 0),(8,.int .i64)],[(0,.box [.sl (.int .i64),.sl (.int .i64),.int .i64,.sl tC]),(1,.box [.bool,.nil,.nil,.nil,.int .i64,.int .i64]),(2,.box [.bool,.row 3,.row 4,.row 5,.int .i64,.int .i64]),(3,.row tI),(4,.row tI),(5,.row tI)],6⟩
def Yq:StS:=⟨[(4,.ptr 0 0),(5,.ptr 1 0)],[(0,.box [.bool,.nil,.nil,.nil,.int .i64,.int .i64]),(1,.box [.bool,.row 2,.row 3,.row 4,.int .i64,.int .i64]),(2,.row tI),(3,.row tI),(4,.row tI)],5⟩
def Zq3:StD KY→KB:=fun ((_,_,_,a,_),((b,c,d,e,_),(f,_,_,_,g,h,_),(i,_,_,_,j,k,_),l,m,n,_))=>(a,b,c,d,e,f,g,h,i,j,k,l,m,n)
def ZjM:KB→StD KY:=fun (a,b,c,d,e,f,g,h,i,j,k,l,m,n)=>(((),(),(),a,()),((b,c,d,e,()),(f,(),(),(),g,h,()),(i,(),(),(),j,k,()),l,m,n,()))
def ZAC:StD Yq→Jb:=fun ((_,_,_),((a,_,_,_,b,c,_),(d,_,_,_,e,f,_),g,h,i,_))=>(a,b,c,d,e,f,g,h,i)
def Zgv:Jb→StD Yq:=fun (a,b,c,d,e,f,g,h,i)=>(((),(),()),((a,(),(),(),b,c,()),(d,(),(),(),e,f,()),g,h,i,()))
theorem ZEE (x:KB):rdX ZIi keeps 8 ⟨55,68,keeps 55,0⟩ 4 (bodyX 55 4) 0 Zf0 (sT KY (ZjM x)) (sH KY (ZjM x)) (rdO (fun T h=>(rdS KY T h).map Zq3) (getE 6 Yq ZAC))=Zjr x:=by kernel_rfl
def Zwv:Nat→Tm→Prog (Nat×Tm):=(varP 0 (fun T h=>(rdS KY T h).map Zq3) ZeC (altE 6 Yq Zgv) (fun _ _=>.fail))
def Zuc:Lpc:=⟨55,4,68,(ownP [(2,3,tI)] [] (Zf0 0) (fun base T=>.norm base (Zf0 0) T (Zwv base))),by kernel_rfl,by kernel_rfl,(WQ (loopU Zbd [Zaa,Zf1] 40 1048576 8 (keep:=Zf0) (q:=Zwv) (by kernel_rfl) (Zp (s:=KY) (un:=ZjM) (by rfl) (fun _=>rfl) (Zi (s:=Yq) (un:=Zgv) (by rfl) (fun _=>rfl)) (step:=Zjr) ZEE (fun _ _ e=>⟨_,e⟩) (Zh 6 Yq Zgv) (ZA.fail _ _))))⟩
theorem ZO3 (a0:U) (a1:Int):evGX (cxU Zbd [Zaa,Zf1,Zuc] 40 1048576) keeps 8 55 ZA5 (.dat tE) ((a0,a1,()):(U×(Int×Unit)))=Zqj a0 a1:=by kernel_rfl
def ZrQ:List AV→Prog AV:=conP true ZA5 (.dat tE) ZlN
theorem ZBG:Zd Tryz.prog 55 ZrQ:=Zc (calU Zbd [Zaa,Zf1,Zuc] 40 1048576 8 55) true (by rfl) (by rfl) (fun x r e=>(Zg _ _ _ _ _ _ _).trans ((ZO3 x.1 x.2.1).trans e)) (.inl rfl)
end
section
section
variable [RT] {P:Program}
def rowTs:List Nat→Tm×Hp→Tm×Hp
 | [],x=>x
 | t::r,x=>rowTs r (rowT1 t x)
section
variable {ok:Nat→Prop} {hdr0 hdr:Nat→Value} {S0 S:Stb} {h0 h:Hp} {w0 w:World} {a0 a:Act} {T:Tm}
theorem Left.rowT1 (l:Left P false ok hdr0 S0 h0 w0 a0 h T hdr S a w) (t:Nat):∃ S',Left P false ok hdr0 S0 h0 w0 a0 (Go.Proofs.YtbdcblpjemmipaaGreat.Ex.rowT1 t (T,h)).2 (Go.Proofs.YtbdcblpjemmipaaGreat.Ex.rowT1 t (T,h)).1 hdr S' a w:=by
 unfold Go.Proofs.YtbdcblpjemmipaaGreat.Ex.rowT1
 simp only
 split
 case h_2=>exact ⟨S,l⟩
 rename_i id hid
 split
 case h_2=>exact ⟨S,l⟩
 rename_i e x hf
 obtain ⟨S',p,hd⟩:=ZEM (tr:=false) l.post.real l.post.ment hf
 refine ⟨S',l.trans ⟨p,fun s=>?_,fun s n hn=>?_,rfl,rfl⟩⟩
 ·rw [QJ]
  by_cases k:t=s
  ·rw [if_pos k,← k]
   have hv:=l.tmps t
   rw [hid] at hv
   generalize a.tmps.getD t undef=v at hv
   cases hv with | row _ ao len cap hh=>
   rw [hh] at hd
   exact .sl e x _ hd
  ·rw [if_neg k];exact (l.tmps s).mono p.step.sle fun _ _=>rfl
 ·rw [QJ] at hn
  by_cases k:t=s
  ·rw [if_pos k] at hn;simp [AV.ids] at hn
  ·rw [if_neg k] at hn;exact .inl (l.tok s n hn)
theorem Left.rowTs:∀ (ts:List Nat) {T:Tm} {h:Hp} {S:Stb} (_:Left P false ok hdr0 S0 h0 w0 a0 h T hdr S a w),∃ S',Left P false ok hdr0 S0 h0 w0 a0 (Go.Proofs.YtbdcblpjemmipaaGreat.Ex.rowTs ts (T,h)).2 (Go.Proofs.YtbdcblpjemmipaaGreat.Ex.rowTs ts (T,h)).1 hdr S' a w
 | [],_,_,S,l=>⟨S,l⟩
 | t::r,T,h,S,l=>by
  obtain ⟨S',l'⟩:=l.rowT1 t
  exact Left.rowTs r l'
def rowBs (base:Nat):List (Nat×Nat)→Hp→Hp
 | [],h=>h
 | (id,j)::r,h=>rowBs base r (rowB1 (base+id) j h)
theorem Left.rowBs (base:Nat):∀ (bs:List (Nat×Nat)) {h:Hp} {S:Stb} (_:Left P false ok hdr0 S0 h0 w0 a0 h T hdr S a w),∃ S',Left P false ok hdr0 S0 h0 w0 a0 (Go.Proofs.YtbdcblpjemmipaaGreat.Ex.rowBs base bs h) T hdr S' a w
 | [],_,S,l=>⟨S,l⟩
 | (id,j)::r,_,S,l=>by
  obtain ⟨S',l'⟩:=l.rowB1 (base+id) j
  exact Left.rowBs base r l'
def rowP (bs:List (Nat×Nat)) (ts:List Nat) (keep:List Nat) (r:Nat→Tm→Prog (Nat×Tm)) (base:Nat) (T:Tm):Prog (Nat×Tm):=
 .norm base keep T fun T1=>.glob (fun h=>some (rowTs ts (T1,rowBs base bs h))) fun T2=>r base T2
theorem ZZa {n:Nat} {c:Code} {bs:List (Nat×Nat)} {ts:List Nat} {keep:List Nat} {r:Nat→Tm→Prog (Nat×Tm)} (hs:Z4 P n c r):Z4 P n c (rowP bs ts keep r):=by
 intro tr ok hdr0 S0 h0 w0 a0 h T hdr S a w f e T' h' f' Q l hn ev hO hK
 obtain ⟨T1,h1,hdr1,rfl,l1,ev⟩:=l.normed ev
 obtain ⟨S1,l2⟩:=Left.rowBs h0.c bs l1
 obtain ⟨S2,l3⟩:=Left.rowTs ts l2
 unfold ex at ev
 simp only [run,cond_false,Option.bind_some] at ev
 exact hs false ok hdr0 S0 h0 w0 a0 _ _ hdr1 S2 a w f e T' h' f' Q l3 hn ev hO hK
end
end
end
section
open Go.Proofs Go.Proofs.YtbdcblpjemmipaaGreat
def ZDq:List Sh:=[.dat tU]
def Zhc:Nat→List Nat:=fun c=>bif c.beq 0 then [1,3,4] else [1,3]
def Zn7:Nat→List Nat:=fun c=>bif c.beq 0 then [1,3,5] else [1,3]
def Zn9:Nat→List Nat:=fun c=>bif c.beq 0 then [1,3,6,7] else [1,3,6]
def Zn8:Nat→List Nat:=fun c=>bif c.beq 0 then [1,3,6] else [3]
def VY:List Con:=[⟨82,ZJX,ZVj⟩]
def Hi:StS:=⟨[(1,.ptr 0 0),(3,.sl (.int .i64)),(4,.int .i64)],[(0,.box [.sl (.int .i64),.sl (.int .i64),.int .i64,.sl tC])],1⟩
def H5:StS:=⟨[(1,.ptr 0 0),(3,.sl (.int .i64))],[(0,.box [.sl (.int .i64),.sl (.int .i64),.int .i64,.sl tC])],1⟩
def Zsk:StD Hi→YR:=fun ((_,a,b,_),((c,d,e,f,_),_))=>(a,b,c,d,e,f)
def ZlG:YR→StD Hi:=fun (a,b,c,d,e,f)=>(((),a,b,()),((c,d,e,f,()),()))
def ZCA:StD H5→JU:=fun ((_,a,_),((b,c,d,e,_),_))=>(a,b,c,d,e)
def Zie:JU→StD H5:=fun (a,b,c,d,e)=>(((),a,()),((b,c,d,e,()),()))
theorem ZGC (x:YR):rdX (cxU VY [] 40 1048576) keeps 8 ⟨54,88,keeps 54,0⟩ 0 (bodyX 54 0) 0 Zhc (sT Hi (ZlG x)) (sH Hi (ZlG x)) (rdO (fun T h=>(rdS Hi T h).map Zsk) (getE 2 H5 ZCA))=Zlb x:=by kernel_rfl
def ZxQ:Nat→Tm→Prog (Nat×Tm):=(varP 0 (fun T h=>(rdS Hi T h).map Zsk) ZcE (altE 2 H5 Zie) (fun _ _=>.fail))
def Kc:Lpc:=⟨54,0,88,(rowP [] [3] (Zhc 0) (fun base T=>.norm base (Zhc 0) T (ZxQ base))),by kernel_rfl,by kernel_rfl,(ZZa (loopU VY [] 40 1048576 8 (keep:=Zhc) (q:=ZxQ) (by kernel_rfl) (Zp (s:=Hi) (un:=ZlG) (by rfl) (fun _=>rfl) (Zi (s:=H5) (un:=Zie) (by rfl) (fun _=>rfl)) (step:=Zlb) ZGC (fun _ _ e=>⟨_,e⟩) (Zh 2 H5 Zie) (ZA.fail _ _))))⟩
abbrev ZJ5:=cxU VY [Kc] 40 1048576
def Hj:StS:=⟨[(1,.ptr 0 0),(3,.sl (.int .i64)),(5,.int .i64)],[(0,.box [.sl (.int .i64),.sl (.int .i64),.int .i64,.sl tC])],1⟩
def H6:StS:=⟨[(1,.ptr 0 0),(3,.sl (.int .i64))],[(0,.box [.sl (.int .i64),.sl (.int .i64),.int .i64,.sl tC])],1⟩
def Zsl:StD Hj→YS:=fun ((_,a,b,_),((c,d,e,f,_),_))=>(a,b,c,d,e,f)
def ZlH:YS→StD Hj:=fun (a,b,c,d,e,f)=>(((),a,b,()),((c,d,e,f,()),()))
def ZCB:StD H6→JV:=fun ((_,a,_),((b,c,d,e,_),_))=>(a,b,c,d,e)
def Zif:JV→StD H6:=fun (a,b,c,d,e)=>(((),a,()),((b,c,d,e,()),()))
theorem ZGD (x:YS):rdX ZJ5 keeps 8 ⟨54,88,keeps 54,0⟩ 2 (bodyX 54 2) 0 Zn7 (sT Hj (ZlH x)) (sH Hj (ZlH x)) (rdO (fun T h=>(rdS Hj T h).map Zsl) (getE 4 H6 ZCB))=Zlc x:=by kernel_rfl
def ZxR:Nat→Tm→Prog (Nat×Tm):=(varP 0 (fun T h=>(rdS Hj T h).map Zsl) ZcF (altE 4 H6 Zif) (fun _ _=>.fail))
def Za9:Lpc:=⟨54,2,88,(fun base T=>.norm base (Zn7 0) T (ZxR base)),by kernel_rfl,by kernel_rfl,(loopU VY [Kc] 40 1048576 8 (keep:=Zn7) (q:=ZxR) (by kernel_rfl) (Zp (s:=Hj) (un:=ZlH) (by rfl) (fun _=>rfl) (Zi (s:=H6) (un:=Zif) (by rfl) (fun _=>rfl)) (step:=Zlc) ZGD (fun _ _ e=>⟨_,e⟩) (Zh 4 H6 Zif) (ZA.fail _ _)))⟩
abbrev ZJ7:=cxU VY [Kc,Za9] 40 1048576
def Hl:StS:=⟨[(1,.ptr 0 0),(3,.sl (.int .i64)),(6,.int .i64),(7,.int .i64)],[(0,.box [.sl (.int .i64),.sl (.int .i64),.int .i64,.sl tC])],1⟩
def H8:StS:=⟨[(1,.ptr 0 0),(3,.sl (.int .i64)),(6,.int .i64)],[(0,.box [.sl (.int .i64),.sl (.int .i64),.int .i64,.sl tC])],1⟩
def Zsn:StD Hl→YT:=fun ((_,a,b,c,_),((d,e,f,g,_),_))=>(a,b,c,d,e,f,g)
def ZlJ:YT→StD Hl:=fun (a,b,c,d,e,f,g)=>(((),a,b,c,()),((d,e,f,g,()),()))
def ZCD:StD H8→ZdR:=fun ((_,a,b,_),((c,d,e,f,_),_))=>(a,b,c,d,e,f)
def Zih:ZdR→StD H8:=fun (a,b,c,d,e,f)=>(((),a,b,()),((c,d,e,f,()),()))
theorem ZGF (x:YT):rdX ZJ7 keeps 8 ⟨54,88,keeps 54,0⟩ 6 (bodyX 54 6) 0 Zn9 (sT Hl (ZlJ x)) (sH Hl (ZlJ x)) (rdO (fun T h=>(rdS Hl T h).map Zsn) (getE 8 H8 ZCD))=Zcd x:=by kernel_rfl
def ZxT:Nat→Tm→Prog (Nat×Tm):=(varP 0 (fun T h=>(rdS Hl T h).map Zsn) ZcG (altE 8 H8 Zih) (fun _ _=>.fail))
def Zhh:Lpc:=⟨54,6,88,(fun base T=>.norm base (Zn9 0) T (ZxT base)),by kernel_rfl,by kernel_rfl,(loopU VY [Kc,Za9] 40 1048576 8 (keep:=Zn9) (q:=ZxT) (by kernel_rfl) (Zp (s:=Hl) (un:=ZlJ) (by rfl) (fun _=>rfl) (Zi (s:=H8) (un:=Zih) (by rfl) (fun _=>rfl)) (step:=Zcd) ZGF (fun _ _ e=>⟨_,e⟩) (Zh 8 H8 Zih) (ZA.fail _ _)))⟩
abbrev ZJ6:=cxU VY [Kc,Za9,Zhh] 40 1048576
def Hk:StS:=⟨[(1,.ptr 0 0),(3,.sl (.int .i64)),(6,.int .i64)],[(0,.box [.sl (.int .i64),.sl (.int .i64),.int .i64,.sl tC])],1⟩
def H7:StS:=⟨[(3,.sl (.int .i64))],[],0⟩
def Zsm:StD Hk→W2:=fun ((_,a,b,_),((c,d,e,f,_),_))=>(a,b,c,d,e,f)
def ZlI:W2→StD Hk:=fun (a,b,c,d,e,f)=>(((),a,b,()),((c,d,e,f,()),()))
def ZCC (d:StD H7):ZdQ:=(d.1.1)
def Zig (x:ZdQ):StD H7:=((x,()),())
theorem ZGE (x:W2):rdX ZJ6 keeps 8 ⟨54,88,keeps 54,0⟩ 4 (bodyX 54 4) 0 Zn8 (sT Hk (ZlI x)) (sH Hk (ZlI x)) (rdO (fun T h=>(rdS Hk T h).map Zsm) (getE 6 H7 ZCC))=Wc x:=by kernel_rfl
def ZxS:Nat→Tm→Prog (Nat×Tm):=(varP 0 (fun T h=>(rdS Hk T h).map Zsm) ZfP (altE 6 H7 Zig) (fun _ _=>.fail))
def Zwj:Lpc:=⟨54,4,88,(fun base T=>.norm base (Zn8 0) T (ZxS base)),by kernel_rfl,by kernel_rfl,(loopU VY [Kc,Za9,Zhh] 40 1048576 8 (keep:=Zn8) (q:=ZxS) (by kernel_rfl) (Zp (s:=Hk) (un:=ZlI) (by rfl) (fun _=>rfl) (Zi (s:=H7) (un:=Zig) (by rfl) (fun _=>rfl)) (step:=Wc) ZGE (fun _ _ e=>⟨_,e⟩) (Zh 6 H7 Zig) (ZA.fail _ _)))⟩
theorem ZQx (a0:U):evGX (cxU VY [Kc,Za9,Zhh,Zwj] 40 1048576) keeps 8 54 ZDq (.dat (.sl (.int .i64))) ((a0,()):(U×Unit))=ZnS a0:=by kernel_rfl
def ZDH:List AV→Prog AV:=conP true ZDq (.dat (.sl (.int .i64))) Zy2
theorem ZQ0:Zd Tryz.prog 54 ZDH:=Zc (calU VY [Kc,Za9,Zhh,Zwj] 40 1048576 8 54) true (by rfl) (by rfl) (fun x r e=>(Zg _ _ _ _ _ _ _).trans ((ZQx x.1).trans e)) (.inl rfl)
end
section
open Go.Proofs Go.Proofs.YtbdcblpjemmipaaGreat
def ZrM:List Sh:=[.ptr 0 0,.int .i64,.int .i64,.dat tE]
def Zuo:List Con:=[⟨92,Zuy,ZE4⟩,⟨93,ZBf,ZPl⟩,⟨49,Zuz,ZE5⟩]
def ZDs:List Sh:=[.int .i64,.int .i64,.dat tE]
def ZeV:List (Nat×BSh):=[(0,.box [.row 1,.row 2,.sl (.int .i64)]),(1,.row tE),(2,.row (.int .i64))]
theorem ZF0 (a0 a1:Int) (a2:E) (b0:List Int) (b1:List E) (b2:List Int):evMX (cxU Zuo [] 40 1048576) keeps 8 57 ZrM ZeV (.bool) ZeV (((),a0,a1,a2,()):(Unit×(Int×(Int×(E×Unit))))) ((((),(),b0,()),b1,b2,()):Zdj)=Zg4 a0 a1 a2 b0 b1 b2:=by kernel_rfl
def ZrS:List AV→Prog AV:=meQ ZrM ZeV (.bool) ZeV ZaY
theorem ZGW:Zd Tryz.prog 57 ZrS:=ZRD (ash:=ZDs) (calU Zuo [] 40 1048576 8 57) (by rfl) (by rfl) (by rfl) (fun x y r e=>(ZF0 x.2.1 x.2.2.1 x.2.2.2.1 y.1.2.2.1 y.2.1 y.2.2.1).trans e)
end
section
open Go.Proofs Go.Proofs.YtbdcblpjemmipaaGreat
def ZHu:List Sh:=[.dat tU,.dat (.int .i64),.dat (.sl tEn)]
def Zpi:Nat→List Nat:=fun c=>bif c.beq 0 then [1,2,3,6,7,8,9,10,11] else [1,2,3,6,7,8,9,10]
def Zph:Nat→List Nat:=fun c=>bif c.beq 0 then [1,2,3,6,7,8,9] else [1,2,3,6,7,8,9]
def Ziy:Nat→List Nat:=fun c=>bif c.beq 0 then [1,2,3,6,7,8,9,15,16,17] else [1,2,3,6,7,8,9,15]
def Zix:Nat→List Nat:=fun c=>bif c.beq 0 then [1,2,3,6,7,8,9,15] else [6,8,9]
def Zav:List Con:=[⟨54,ZDH,ZQ0⟩,⟨55,ZrQ,ZBG⟩,⟨56,Zzo,ZKQ⟩,⟨57,ZrS,ZGW⟩,⟨28,Zqf,Zw1⟩]
def VO:StS:=⟨[(1,.int .i64),(2,.sl tEn),(3,.ptr 0 0),(6,.ptr 1 0),(7,.sl tA),(8,.ptr 2 0),(9,.ptr 5 0),(10,.bool),(11,.int .i64)],[(0,.box [.sl (.int .i64),.sl (.int .i64),.int .i64,.sl tC]),(1,.box [.nil,.nil,.nil,.nil,.int .i64,.bool]),(2,.box [.row 3,.row 4,.sl (.int .i64)]),(3,.row tE),(4,.row (.int .i64)),(5,.box [.nil,.nil,.nil,.nil,.int .i64,.bool])],6⟩
def Wq:StS:=⟨[(1,.int .i64),(2,.sl tEn),(3,.ptr 0 0),(6,.ptr 1 0),(7,.sl tA),(8,.ptr 2 0),(9,.ptr 5 0),(10,.bool)],[(0,.box [.sl (.int .i64),.sl (.int .i64),.int .i64,.sl tC]),(1,.box [.nil,.nil,.nil,.nil,.int .i64,.bool]),(2,.box [.row 3,.row 4,.sl (.int .i64)]),(3,.row tE),(4,.row (.int .i64)),(5,.box [.nil,.nil,.nil,.nil,.int .i64,.bool])],6⟩
def ZtY:StD VO→Vo:=fun ((a,b,_,_,c,_,_,d,e,_),((f,g,h,i,_),(_,_,_,_,j,k,_),(_,_,l,_),m,n,(_,_,_,_,o,p,_),_))=>(a,b,c,d,e,f,g,h,i,j,k,l,m,n,o,p)
def Zm4:Vo→StD VO:=fun (a,b,c,d,e,f,g,h,i,j,k,l,m,n,o,p)=>((a,b,(),(),c,(),(),d,e,()),((f,g,h,i,()),((),(),(),(),j,k,()),((),(),l,()),m,n,((),(),(),(),o,p,()),()))
def ZDZ:StD Wq→KI:=fun ((a,b,_,_,c,_,_,d,_),((e,f,g,h,_),(_,_,_,_,i,j,_),(_,_,k,_),l,m,(_,_,_,_,n,o,_),_))=>(a,b,c,d,e,f,g,h,i,j,k,l,m,n,o)
def ZjV:KI→StD Wq:=fun (a,b,c,d,e,f,g,h,i,j,k,l,m,n,o)=>((a,b,(),(),c,(),(),d,()),((e,f,g,h,()),((),(),(),(),i,j,()),((),(),k,()),l,m,((),(),(),(),n,o,()),()))
theorem ZIY (x:Vo):rdX (cxU Zav [] 40 (1048576 ^ 9)) keeps 8 ⟨25,159,keeps 25,0⟩ 2 (bodyX 25 2) 0 Zpi (sT VO (Zm4 x)) (sH VO (Zm4 x)) (rdO (fun T h=>(rdS VO T h).map ZtY) (getE 4 Wq ZDZ))=ZmK x:=by kernel_rfl
def Zz1:Nat→Tm→Prog (Nat×Tm):=(varP 0 (fun T h=>(rdS VO T h).map ZtY) Zds (altE 4 Wq ZjV) (fun _ _=>.fail))
def Yz:Lpc:=⟨25,2,159,(fun base T=>.norm base (Zpi 0) T (Zz1 base)),by kernel_rfl,by kernel_rfl,(loopU Zav [] 40 (1048576 ^ 9) 8 (keep:=Zpi) (q:=Zz1) (by kernel_rfl) (Zp (s:=VO) (un:=Zm4) (by rfl) (fun _=>rfl) (Zi (s:=Wq) (un:=ZjV) (by rfl) (fun _=>rfl)) (step:=ZmK) ZIY (fun _ _ e=>⟨_,e⟩) (Zh 4 Wq ZjV) (ZA.fail _ _)))⟩
abbrev ZLG:=cxU Zav [Yz] 40 (1048576 ^ 9)
def VN:StS:=⟨[(1,.int .i64),(2,.sl tEn),(3,.ptr 0 0),(6,.ptr 1 0),(7,.sl tA),(8,.ptr 2 0),(9,.ptr 5 0)],[(0,.box [.sl (.int .i64),.sl (.int .i64),.int .i64,.sl tC]),(1,.box [.nil,.nil,.nil,.nil,.int .i64,.bool]),(2,.box [.row 3,.row 4,.sl (.int .i64)]),(3,.row tE),(4,.row (.int .i64)),(5,.box [.nil,.nil,.nil,.nil,.int .i64,.bool])],6⟩
def Wp:StS:=⟨[(1,.int .i64),(2,.sl tEn),(3,.ptr 0 0),(6,.ptr 1 0),(7,.sl tA),(8,.ptr 2 0),(9,.ptr 5 0)],[(0,.box [.sl (.int .i64),.sl (.int .i64),.int .i64,.sl tC]),(1,.box [.nil,.nil,.nil,.nil,.int .i64,.bool]),(2,.box [.row 3,.row 4,.sl (.int .i64)]),(3,.row tE),(4,.row (.int .i64)),(5,.box [.nil,.nil,.nil,.nil,.int .i64,.bool])],6⟩
def ZtX:StD VN→Za4:=fun ((a,b,_,_,c,_,_,_),((d,e,f,g,_),(_,_,_,_,h,i,_),(_,_,j,_),k,l,(_,_,_,_,m,n,_),_))=>(a,b,c,d,e,f,g,h,i,j,k,l,m,n)
def Zm3:Za4→StD VN:=fun (a,b,c,d,e,f,g,h,i,j,k,l,m,n)=>((a,b,(),(),c,(),(),()),((d,e,f,g,()),((),(),(),(),h,i,()),((),(),j,()),k,l,((),(),(),(),m,n,()),()))
def ZDY:StD Wp→ZeG:=fun ((a,b,_,_,c,_,_,_),((d,e,f,g,_),(_,_,_,_,h,i,_),(_,_,j,_),k,l,(_,_,_,_,m,n,_),_))=>(a,b,c,d,e,f,g,h,i,j,k,l,m,n)
def ZjU:ZeG→StD Wp:=fun (a,b,c,d,e,f,g,h,i,j,k,l,m,n)=>((a,b,(),(),c,(),(),()),((d,e,f,g,()),((),(),(),(),h,i,()),((),(),j,()),k,l,((),(),(),(),m,n,()),()))
theorem ZIX (x:Za4):rdX ZLG keeps 8 ⟨25,159,keeps 25,0⟩ 0 (bodyX 25 0) 0 Zph (sT VN (Zm3 x)) (sH VN (Zm3 x)) (rdO (fun T h=>(rdS VN T h).map ZtX) (getE 2 Wp ZDY))=Ho x:=by kernel_rfl
def Zz0:Nat→Tm→Prog (Nat×Tm):=(varP 0 (fun T h=>(rdS VN T h).map ZtX) ZgR (altE 2 Wp ZjU) (fun _ _=>.fail))
def Zck:Lpc:=⟨25,0,159,(fun base T=>.norm base (Zph 0) T (Zz0 base)),by kernel_rfl,by kernel_rfl,(loopU Zav [Yz] 40 (1048576 ^ 9) 8 (keep:=Zph) (q:=Zz0) (by kernel_rfl) (Zp (s:=VN) (un:=Zm3) (by rfl) (fun _=>rfl) (Zi (s:=Wp) (un:=ZjU) (by rfl) (fun _=>rfl)) (step:=Ho) ZIX (fun _ _ e=>⟨_,e⟩) (Zh 2 Wp ZjU) (ZA.fail _ _)))⟩
abbrev ZLI:=cxU Zav [Yz,Zck] 40 (1048576 ^ 9)
def VQ:StS:=⟨[(1,.int .i64),(2,.sl tEn),(3,.ptr 0 0),(6,.ptr 1 0),(7,.sl tA),(8,.ptr 2 0),(9,.ptr 5 0),(15,.int .i64),(16,.ptr 9 0),(17,.int .i64)],[(0,.box [.sl (.int .i64),.sl (.int .i64),.int .i64,.sl tC]),(1,.box [.nil,.nil,.nil,.nil,.int .i64,.bool]),(2,.box [.row 3,.row 4,.sl (.int .i64)]),(3,.row tE),(4,.row (.int .i64)),(5,.box [.nil,.row 6,.row 7,.row 8,.int .i64,.bool]),(6,.row tEn),(7,.row tAc),(8,.row tAl),(9,.box [.bool,.sl tI,.sl tI,.sl tI,.int .i64,.int .i64,.bool,.sl tI,.sl tI,.sl tI,.int .i64,.int .i64,.sl (.int .i64),.sl tEn,.sl tAc])],10⟩
def Ws:StS:=⟨[(1,.int .i64),(2,.sl tEn),(3,.ptr 0 0),(6,.ptr 1 0),(7,.sl tA),(8,.ptr 2 0),(9,.ptr 5 0),(15,.int .i64)],[(0,.box [.sl (.int .i64),.sl (.int .i64),.int .i64,.sl tC]),(1,.box [.nil,.nil,.nil,.nil,.int .i64,.bool]),(2,.box [.row 3,.row 4,.sl (.int .i64)]),(3,.row tE),(4,.row (.int .i64)),(5,.box [.nil,.row 6,.row 7,.row 8,.int .i64,.bool]),(6,.row tEn),(7,.row tAc),(8,.row tAl)],9⟩
def Zt0:StD VQ→Vp:=fun ((a,b,_,_,c,_,_,d,_,e,_),((f,g,h,i,_),(_,_,_,_,j,k,_),(_,_,l,_),m,n,(_,_,_,_,o,p,_),q,r,s,(t,u,w,y,z,au,aw,ay,az,bu,bw,bz,cu,cw,cy,_),_))=>(a,b,c,d,e,f,g,h,i,j,k,l,m,n,o,p,q,r,s,t,u,w,y,z,au,aw,ay,az,bu,bw,bz,cu,cw,cy)
def Zm6:Vp→StD VQ:=fun (a,b,c,d,e,f,g,h,i,j,k,l,m,n,o,p,q,r,s,t,u,w,y,z,au,aw,ay,az,bu,bw,bz,cu,cw,cy)=>((a,b,(),(),c,(),(),d,(),e,()),((f,g,h,i,()),((),(),(),(),j,k,()),((),(),l,()),m,n,((),(),(),(),o,p,()),q,r,s,(t,u,w,y,z,au,aw,ay,az,bu,bw,bz,cu,cw,cy,()),()))
def ZD1:StD Ws→KJ:=fun ((a,b,_,_,c,_,_,d,_),((e,f,g,h,_),(_,_,_,_,i,j,_),(_,_,k,_),l,m,(_,_,_,_,n,o,_),p,q,r,_))=>(a,b,c,d,e,f,g,h,i,j,k,l,m,n,o,p,q,r)
def ZjX:KJ→StD Ws:=fun (a,b,c,d,e,f,g,h,i,j,k,l,m,n,o,p,q,r)=>((a,b,(),(),c,(),(),d,()),((e,f,g,h,()),((),(),(),(),i,j,()),((),(),k,()),l,m,((),(),(),(),n,o,()),p,q,r,()))
theorem ZI0 (x:Vp):rdX ZLI keeps 8 ⟨25,159,keeps 25,0⟩ 6 (bodyX 25 6) 0 Ziy (sT VQ (Zm6 x)) (sH VQ (Zm6 x)) (rdO (fun T h=>(rdS VQ T h).map Zt0) (getE 8 Ws ZD1))=ZmL x:=by kernel_rfl
def Zz3:Nat→Tm→Prog (Nat×Tm):=(varP 0 (fun T h=>(rdS VQ T h).map Zt0) Zdt (altE 8 Ws ZjX) (fun _ _=>.fail))
def Ziz:Lpc:=⟨25,6,159,(ownP [(5,3,tAl)] [] (Ziy 0) (fun base T=>.norm base (Ziy 0) T (Zz3 base))),by kernel_rfl,by kernel_rfl,(WQ (loopU Zav [Yz,Zck] 40 (1048576 ^ 9) 8 (keep:=Ziy) (q:=Zz3) (by kernel_rfl) (Zp (s:=VQ) (un:=Zm6) (by rfl) (fun _=>rfl) (Zi (s:=Ws) (un:=ZjX) (by rfl) (fun _=>rfl)) (step:=ZmL) ZI0 (fun _ _ e=>⟨_,e⟩) (Zh 8 Ws ZjX) (ZA.fail _ _))))⟩
abbrev ZLH:=cxU Zav [Yz,Zck,Ziz] 40 (1048576 ^ 9)
def VP:StS:=⟨[(1,.int .i64),(2,.sl tEn),(3,.ptr 0 0),(6,.ptr 1 0),(7,.sl tA),(8,.ptr 2 0),(9,.ptr 5 0),(15,.int .i64)],[(0,.box [.sl (.int .i64),.sl (.int .i64),.int .i64,.sl tC]),(1,.box [.nil,.nil,.nil,.nil,.int .i64,.bool]),(2,.box [.row 3,.row 4,.sl (.int .i64)]),(3,.row tE),(4,.row (.int .i64)),(5,.box [.nil,.row 6,.row 7,.row 8,.int .i64,.bool]),(6,.row tEn),(7,.row tAc),(8,.row tAl)],9⟩
def Wr:StS:=⟨[(6,.ptr 0 0),(8,.ptr 1 0),(9,.ptr 4 0)],[(0,.box [.nil,.nil,.nil,.nil,.int .i64,.bool]),(1,.box [.row 2,.row 3,.sl (.int .i64)]),(2,.row tE),(3,.row (.int .i64)),(4,.box [.nil,.row 5,.row 6,.row 7,.int .i64,.bool]),(5,.row tEn),(6,.row tAc),(7,.row tAl)],8⟩
def ZtZ:StD VP→Za5:=fun ((a,b,_,_,c,_,_,d,_),((e,f,g,h,_),(_,_,_,_,i,j,_),(_,_,k,_),l,m,(_,_,_,_,n,o,_),p,q,r,_))=>(a,b,c,d,e,f,g,h,i,j,k,l,m,n,o,p,q,r)
def Zm5:Za5→StD VP:=fun (a,b,c,d,e,f,g,h,i,j,k,l,m,n,o,p,q,r)=>((a,b,(),(),c,(),(),d,()),((e,f,g,h,()),((),(),(),(),i,j,()),((),(),k,()),l,m,((),(),(),(),n,o,()),p,q,r,()))
def ZD0:StD Wr→ZeH:=fun ((_,_,_,_),((_,_,_,_,a,b,_),(_,_,c,_),d,e,(_,_,_,_,f,g,_),h,i,j,_))=>(a,b,c,d,e,f,g,h,i,j)
def ZjW:ZeH→StD Wr:=fun (a,b,c,d,e,f,g,h,i,j)=>(((),(),(),()),(((),(),(),(),a,b,()),((),(),c,()),d,e,((),(),(),(),f,g,()),h,i,j,()))
theorem ZIZ (x:Za5):rdX ZLH keeps 8 ⟨25,159,keeps 25,0⟩ 4 (bodyX 25 4) 0 Zix (sT VP (Zm5 x)) (sH VP (Zm5 x)) (rdO (fun T h=>(rdS VP T h).map ZtZ) (getE 6 Wr ZD0))=Zad x:=by kernel_rfl
def Zz2:Nat→Tm→Prog (Nat×Tm):=(varP 0 (fun T h=>(rdS VP T h).map ZtZ) ZgS (altE 6 Wr ZjW) (fun _ _=>.fail))
def Zxt:Lpc:=⟨25,4,159,(ownP [(5,1,tEn),(5,2,tAc),(5,3,tAl)] [] (Zix 0) (fun base T=>.norm base (Zix 0) T (Zz2 base))),by kernel_rfl,by kernel_rfl,(WQ (loopU Zav [Yz,Zck,Ziz] 40 (1048576 ^ 9) 8 (keep:=Zix) (q:=Zz2) (by kernel_rfl) (Zp (s:=VP) (un:=Zm5) (by rfl) (fun _=>rfl) (Zi (s:=Wr) (un:=ZjW) (by rfl) (fun _=>rfl)) (step:=Zad) ZIZ (fun _ _ e=>⟨_,e⟩) (Zh 6 Wr ZjW) (ZA.fail _ _))))⟩
theorem ZSB (a0:U) (a1:Int) (a2:List En):evGX (cxU Zav [Yz,Zck,Ziz,Zxt] 40 (1048576 ^ 9)) keeps 8 25 ZHu (.dat tR) ((a0,a1,a2,()):(U×(Int×((List En)×Unit))))=ZpZ a0 a1 a2:=by kernel_rfl
def ZBZ (x:(U×(Int×((List En)×Unit)))):Option Re:=ZpZ x.1 x.2.1 x.2.2.1
def ZHO:List AV→Prog AV:=conP true ZHu (.dat tR) ZBZ
theorem ZSY:Zd Tryz.prog 25 ZHO:=Zc (calU Zav [Yz,Zck,Ziz,Zxt] 40 (1048576 ^ 9) 8 25) true (by rfl) (by rfl) (fun x r e=>(Zg _ _ _ _ _ _ _).trans ((ZSB x.1 x.2.1 x.2.2.1).trans e)) (.inl rfl)
end
section
open Go.Proofs
section
variable {u:U} {t:Int} {l l':List En} {st:List Int} {c:C} {a b z:E}
theorem ZRW (a:E):sameE a a=true:=by
 unfold sameE
 cases a.1<;>simp
end
end
section
open Go.Proofs Go.Proofs.YtbdcblpjemmipaaGreat
abbrev ZiF:Type:=(Bool×(List E)×(List En)×(List Ac)×(List Al)×Int×Bool×(List E)×(List En)×(List Ac)×(List Al)×Int×Bool)
abbrev Zcn:Type:=(Int×(List E)×(List En)×(List Ac)×(List Al)×Int×Bool×(List E)×(List En)×(List Ac)×(List Al)×Int×Bool)
abbrev ZiG:Type:=((List E)×(List En)×(List Ac)×(List Al)×Int×Bool×(List E)×(List En)×(List Ac)×(List Al)×Int×Bool)
def ZDk:List Sh:=[.dat tR,.dat tR]
def Zn3:Nat→List Nat:=fun c=>bif c.beq 0 then [2,3,5] else [2,3,4]
def Zn4:Nat→List Nat:=fun c=>bif c.beq 0 then [2,3,6] else [2,3,4]
def Zn5:Nat→List Nat:=fun c=>bif c.beq 0 then [2,3,7] else [4]
def Zcr:List Con:=[⟨40,ZDz,ZQS⟩,⟨49,Zuz,ZE5⟩]
def Hb:StS:=⟨[(2,.ptr 0 0),(3,.ptr 1 0),(5,.int .i64)],[(0,.box [.sl tE,.sl tEn,.sl tAc,.sl tAl,.int .i64,.bool]),(1,.box [.sl tE,.sl tEn,.sl tAc,.sl tAl,.int .i64,.bool])],2⟩
def HV:StS:=⟨[(2,.ptr 0 0),(3,.ptr 1 0),(4,.undef)],[(0,.box [.sl tE,.sl tEn,.sl tAc,.sl tAl,.int .i64,.bool]),(1,.box [.sl tE,.sl tEn,.sl tAc,.sl tAl,.int .i64,.bool])],2⟩
def HW:StS:=⟨[(2,.ptr 0 0),(3,.ptr 1 0),(4,.bool)],[(0,.box [.sl tE,.sl tEn,.sl tAc,.sl tAl,.int .i64,.bool]),(1,.box [.sl tE,.sl tEn,.sl tAc,.sl tAl,.int .i64,.bool])],2⟩
abbrev YN:=Zcn
def Zsd:StD Hb→YN:=fun ((_,_,a,_),((b,c,d,e,f,g,_),(h,i,j,k,l,m,_),_))=>(a,b,c,d,e,f,g,h,i,j,k,l,m)
def Zlz:YN→StD Hb:=fun (a,b,c,d,e,f,g,h,i,j,k,l,m)=>(((),(),a,()),((b,c,d,e,f,g,()),(h,i,j,k,l,m,()),()))
abbrev JN:=ZiG
def ZCq:StD HV→JN:=fun ((_,_,_,_),((a,b,c,d,e,f,_),(g,h,i,j,k,l,_),_))=>(a,b,c,d,e,f,g,h,i,j,k,l)
def Zh4:JN→StD HV:=fun (a,b,c,d,e,f,g,h,i,j,k,l)=>(((),(),(),()),((a,b,c,d,e,f,()),(g,h,i,j,k,l,()),()))
abbrev JO:=ZiF
def ZCr:StD HW→JO:=fun ((_,_,a,_),((b,c,d,e,f,g,_),(h,i,j,k,l,m,_),_))=>(a,b,c,d,e,f,g,h,i,j,k,l,m)
def Zh5:JO→StD HW:=fun (a,b,c,d,e,f,g,h,i,j,k,l,m)=>(((),(),a,()),((b,c,d,e,f,g,()),(h,i,j,k,l,m,()),()))
def Zb7 (s5:Int) (b0:List E) (b0_1:List En) (b0_2:List Ac) (b0_3:List Al) (b0_4:Int) (b0_5:Bool) (b1:List E) (b1_1:List En) (b1_2:List Ac) (b1_3:List Al) (b1_4:Int) (b1_5:Bool):Option (Zcn⊕(ZiG⊕ZiF)):=
 bif decide (s5<(↑b0.length:Int)) then
 bif decide (0≤s5) then
 optC b0[s5.toNat]? none fun d17=>
 bif decide (0≤s5) then
 optC b1[s5.toNat]? none fun d18=>
 optC (Zdn (d17,d18,())) none fun d19=>
 bif !d19 then some (Sum.inr (Sum.inr (false,b0,b0_1,b0_2,b0_3,b0_4,b0_5,b1,b1_1,b1_2,b1_3,b1_4,b1_5)))
 else some (Sum.inl (IntKind.i64.wrap (s5+1),b0,b0_1,b0_2,b0_3,b0_4,b0_5,b1,b1_1,b1_2,b1_3,b1_4,b1_5))
 else none
 else none
 else some (Sum.inr (Sum.inl (b0,b0_1,b0_2,b0_3,b0_4,b0_5,b1,b1_1,b1_2,b1_3,b1_4,b1_5)))
def Zk6:YN→Option (YN⊕(JN⊕JO)):=fun (a,b,c,d,e,f,g,h,i,j,k,l,m)=>Zb7 a b c d e f g h i j k l m
theorem ZGv (x:YN):rdX (cxU Zcr [] 40 1048576) keeps 8 ⟨23,110,keeps 23,0⟩ 0 (bodyX 23 0) 0 Zn3 (sT Hb (Zlz x)) (sH Hb (Zlz x)) (rdO (fun T h=>(rdS Hb T h).map Zsd) (getOr (getE 2 HV ZCq) (getE 1 HW ZCr)))=Zk6 x:=by kernel_rfl
def ZfL (x:YN):Option (JN⊕JO):=iterO Zk6 Zj x
def ZxK:Nat→Tm→Prog (Nat×Tm):=(varP 0 (fun T h=>(rdS Hb T h).map Zsd) ZfL (fun y=>.alt y (altE 2 HV Zh4) (altE 1 HW Zh5)) (fun _ _=>.fail))
def Za8:Lpc:=⟨23,0,110,(fun base T=>.norm base (Zn3 0) T (ZxK base)),by kernel_rfl,by kernel_rfl,(loopU Zcr [] 40 1048576 8 (keep:=Zn3) (q:=ZxK) (by kernel_rfl) (Zp (s:=Hb) (un:=Zlz) (by rfl) (fun _=>rfl) (ZR (Zi (s:=HV) (un:=Zh4) (by rfl) (fun _=>rfl)) (Zi (s:=HW) (un:=Zh5) (by rfl) (fun _=>rfl))) (step:=Zk6) ZGv (fun _ _ e=>⟨_,e⟩) (ZQ (Zh 2 HV Zh4) (Zh 1 HW Zh5)) (ZA.fail _ _)))⟩
abbrev ZJ2:=cxU Zcr [Za8] 40 1048576
def Hc:StS:=⟨[(2,.ptr 0 0),(3,.ptr 1 0),(6,.int .i64)],[(0,.box [.sl tE,.sl tEn,.sl tAc,.sl tAl,.int .i64,.bool]),(1,.box [.sl tE,.sl tEn,.sl tAc,.sl tAl,.int .i64,.bool])],2⟩
def HX:StS:=⟨[(2,.ptr 0 0),(3,.ptr 1 0),(4,.undef)],[(0,.box [.sl tE,.sl tEn,.sl tAc,.sl tAl,.int .i64,.bool]),(1,.box [.sl tE,.sl tEn,.sl tAc,.sl tAl,.int .i64,.bool])],2⟩
def HY:StS:=⟨[(2,.ptr 0 0),(3,.ptr 1 0),(4,.bool)],[(0,.box [.sl tE,.sl tEn,.sl tAc,.sl tAl,.int .i64,.bool]),(1,.box [.sl tE,.sl tEn,.sl tAc,.sl tAl,.int .i64,.bool])],2⟩
abbrev YO:=Zcn
def Zse:StD Hc→YO:=fun ((_,_,a,_),((b,c,d,e,f,g,_),(h,i,j,k,l,m,_),_))=>(a,b,c,d,e,f,g,h,i,j,k,l,m)
def ZlA:YO→StD Hc:=fun (a,b,c,d,e,f,g,h,i,j,k,l,m)=>(((),(),a,()),((b,c,d,e,f,g,()),(h,i,j,k,l,m,()),()))
abbrev JP:=ZiG
def ZCs:StD HX→JP:=fun ((_,_,_,_),((a,b,c,d,e,f,_),(g,h,i,j,k,l,_),_))=>(a,b,c,d,e,f,g,h,i,j,k,l)
def Zh6:JP→StD HX:=fun (a,b,c,d,e,f,g,h,i,j,k,l)=>(((),(),(),()),((a,b,c,d,e,f,()),(g,h,i,j,k,l,()),()))
abbrev JQ:=ZiF
def ZCt:StD HY→JQ:=fun ((_,_,a,_),((b,c,d,e,f,g,_),(h,i,j,k,l,m,_),_))=>(a,b,c,d,e,f,g,h,i,j,k,l,m)
def Zh7:JQ→StD HY:=fun (a,b,c,d,e,f,g,h,i,j,k,l,m)=>(((),(),a,()),((b,c,d,e,f,g,()),(h,i,j,k,l,m,()),()))
def Zb8 (s6:Int) (b0:List E) (b0_1:List En) (b0_2:List Ac) (b0_3:List Al) (b0_4:Int) (b0_5:Bool) (b1:List E) (b1_1:List En) (b1_2:List Ac) (b1_3:List Al) (b1_4:Int) (b1_5:Bool):Option (Zcn⊕(ZiG⊕ZiF)):=
 bif decide (s6<(↑b0_2.length:Int)) then
 bif decide (0≤s6) then
 optC b0_2[s6.toNat]? none fun d17=>
 bif decide (0≤s6) then
 optC b1_2[s6.toNat]? none fun d18=>
 bif
 !(d17.1==d18.1 &&
 (d17.2.1==d18.2.1 &&
 (d17.2.2.1==d18.2.2.1 &&
 (d17.2.2.2.1==d18.2.2.2.1&&(d17.2.2.2.2.1==d18.2.2.2.2.1&&d17.2.2.2.2.2==d18.2.2.2.2.2))))) then
 some (Sum.inr (Sum.inr (false,b0,b0_1,b0_2,b0_3,b0_4,b0_5,b1,b1_1,b1_2,b1_3,b1_4,b1_5)))
 else some (Sum.inl (IntKind.i64.wrap (s6+1),b0,b0_1,b0_2,b0_3,b0_4,b0_5,b1,b1_1,b1_2,b1_3,b1_4,b1_5))
 else none
 else none
 else some (Sum.inr (Sum.inl (b0,b0_1,b0_2,b0_3,b0_4,b0_5,b1,b1_1,b1_2,b1_3,b1_4,b1_5)))
def Zk7:YO→Option (YO⊕(JP⊕JQ)):=fun (a,b,c,d,e,f,g,h,i,j,k,l,m)=>Zb8 a b c d e f g h i j k l m
theorem ZGw (x:YO):rdX ZJ2 keeps 8 ⟨23,110,keeps 23,0⟩ 2 (bodyX 23 2) 0 Zn4 (sT Hc (ZlA x)) (sH Hc (ZlA x)) (rdO (fun T h=>(rdS Hc T h).map Zse) (getOr (getE 4 HX ZCs) (getE 1 HY ZCt)))=Zk7 x:=by kernel_rfl
def ZfM (x:YO):Option (JP⊕JQ):=iterO Zk7 Zj x
def ZxL:Nat→Tm→Prog (Nat×Tm):=(varP 0 (fun T h=>(rdS Hc T h).map Zse) ZfM (fun y=>.alt y (altE 4 HX Zh6) (altE 1 HY Zh7)) (fun _ _=>.fail))
def Zhf:Lpc:=⟨23,2,110,(fun base T=>.norm base (Zn4 0) T (ZxL base)),by kernel_rfl,by kernel_rfl,(loopU Zcr [Za8] 40 1048576 8 (keep:=Zn4) (q:=ZxL) (by kernel_rfl) (Zp (s:=Hc) (un:=ZlA) (by rfl) (fun _=>rfl) (ZR (Zi (s:=HX) (un:=Zh6) (by rfl) (fun _=>rfl)) (Zi (s:=HY) (un:=Zh7) (by rfl) (fun _=>rfl))) (step:=Zk7) ZGw (fun _ _ e=>⟨_,e⟩) (ZQ (Zh 4 HX Zh6) (Zh 1 HY Zh7)) (ZA.fail _ _)))⟩
abbrev ZJ3:=cxU Zcr [Za8,Zhf] 40 1048576
def Hd:StS:=⟨[(2,.ptr 0 0),(3,.ptr 1 0),(7,.int .i64)],[(0,.box [.sl tE,.sl tEn,.sl tAc,.sl tAl,.int .i64,.bool]),(1,.box [.sl tE,.sl tEn,.sl tAc,.sl tAl,.int .i64,.bool])],2⟩
def HZ:StS:=⟨[(4,.undef)],[],0⟩
def H0:StS:=⟨[(4,.bool)],[],0⟩
abbrev YP:=Zcn
def Zsf:StD Hd→YP:=fun ((_,_,a,_),((b,c,d,e,f,g,_),(h,i,j,k,l,m,_),_))=>(a,b,c,d,e,f,g,h,i,j,k,l,m)
def ZlB:YP→StD Hd:=fun (a,b,c,d,e,f,g,h,i,j,k,l,m)=>(((),(),a,()),((b,c,d,e,f,g,()),(h,i,j,k,l,m,()),()))
abbrev JR:=Unit
def ZCu (d:StD HZ):JR:=()
def Zh8 (x:JR):StD HZ:=(((),()),())
abbrev JS:=Bool
def ZCv (d:StD H0):JS:=(d.1.1)
def Zh9 (x:JS):StD H0:=((x,()),())
def Zb9 (s7:Int) (b0:List E) (b0_1:List En) (b0_2:List Ac) (b0_3:List Al) (b0_4:Int) (b0_5:Bool) (b1:List E) (b1_1:List En) (b1_2:List Ac) (b1_3:List Al) (b1_4:Int) (b1_5:Bool):Option (Zcn⊕(Unit⊕Bool)):=
 bif decide (s7<(↑b0_3.length:Int)) then
 bif decide (0≤s7) then
 optC b0_3[s7.toNat]? none fun d17=>
 bif decide (0≤s7) then
 optC b1_3[s7.toNat]? none fun d18=>
 bif
 !(d17.1==d18.1 &&
 (d17.2.1==d18.2.1 &&
 (d17.2.2.1==d18.2.2.1 &&
 (d17.2.2.2.1==d18.2.2.2.1&&(d17.2.2.2.2.1==d18.2.2.2.2.1&&d17.2.2.2.2.2==d18.2.2.2.2.2))))) then
 some (Sum.inr (Sum.inr false))
 else some (Sum.inl (IntKind.i64.wrap (s7+1),b0,b0_1,b0_2,b0_3,b0_4,b0_5,b1,b1_1,b1_2,b1_3,b1_4,b1_5))
 else none
 else none
 else some (Sum.inr (Sum.inl PUnit.unit))
def Zk8:YP→Option (YP⊕(JR⊕JS)):=fun (a,b,c,d,e,f,g,h,i,j,k,l,m)=>Zb9 a b c d e f g h i j k l m
theorem ZGx (x:YP):rdX ZJ3 keeps 8 ⟨23,110,keeps 23,0⟩ 4 (bodyX 23 4) 0 Zn5 (sT Hd (ZlB x)) (sH Hd (ZlB x)) (rdO (fun T h=>(rdS Hd T h).map Zsf) (getOr (getE 6 HZ ZCu) (getE 1 H0 ZCv)))=Zk8 x:=by kernel_rfl
def ZfN (x:YP):Option (JR⊕JS):=iterO Zk8 Zj x
def ZxM:Nat→Tm→Prog (Nat×Tm):=(varP 0 (fun T h=>(rdS Hd T h).map Zsf) ZfN (fun y=>.alt y (altE 6 HZ Zh8) (altE 1 H0 Zh9)) (fun _ _=>.fail))
def Zwg:Lpc:=⟨23,4,110,(fun base T=>.norm base (Zn5 0) T (ZxM base)),by kernel_rfl,by kernel_rfl,(loopU Zcr [Za8,Zhf] 40 1048576 8 (keep:=Zn5) (q:=ZxM) (by kernel_rfl) (Zp (s:=Hd) (un:=ZlB) (by rfl) (fun _=>rfl) (ZR (Zi (s:=HZ) (un:=Zh8) (by rfl) (fun _=>rfl)) (Zi (s:=H0) (un:=Zh9) (by rfl) (fun _=>rfl))) (step:=Zk8) ZGx (fun _ _ e=>⟨_,e⟩) (ZQ (Zh 6 HZ Zh8) (Zh 1 H0 Zh9)) (ZA.fail _ _)))⟩
def ZsJ (a0 a1:Re):Option Bool:=
 bif (↑(List.length a0.1):Int) !=(↑(List.length a1.1):Int) then some false
 else
 optC (ZyZ (a0.2.1,a1.2.1,())) none fun d6=>
 bif !d6 then some false
 else
 bif (↑(List.length a0.2.2.1):Int) !=(↑(List.length a1.2.2.1):Int) then some false
 else
 bif (↑(List.length a0.2.2.2.1):Int) !=(↑(List.length a1.2.2.2.1):Int) then some false
 else
 bif a0.2.2.2.2.1 !=a1.2.2.2.2.1 then some false
 else
 bif !a0.2.2.2.2.2==a1.2.2.2.2.2 then some false
 else
 optC (ZfL (0,a0.1,a0.2.1,a0.2.2.1,a0.2.2.2.1,a0.2.2.2.2.1,a0.2.2.2.2.2,a1)) none fun d7=>
 Sum.elim
 (fun e8=>
 optC (ZfM (0,e8)) none fun d9=>
 Sum.elim (fun e10=>optC (ZfN (0,e10)) none fun d11=>Sum.elim (fun e12=>some true) (fun e12=>some e12) d11)
 (fun e10=>some e10.1) d9)
 (fun e8=>some e8.1) d7
theorem ZQr (a0 a1:Re):evGX (cxU Zcr [Za8,Zhf,Zwg] 40 1048576) keeps 8 23 ZDk (.dat .bool) ((a0,a1,()):(Re×(Re×Unit)))=ZsJ a0 a1:=by kernel_rfl
def Zy0 (x:Re×(Re×Unit)):Option Bool:=ZsJ x.1 x.2.1
def ZDD:List AV→Prog AV:=conP true ZDk (.dat .bool) Zy0
theorem ZQW:Zd Tryz.prog 23 ZDD:=Zc (calU Zcr [Za8,Zhf,Zwg] 40 1048576 8 23) true (by rfl) (by rfl) (fun x r e=>(Zg _ _ _ _ _ _ _).trans ((ZQr x.1 x.2.1).trans e)) (.inl rfl)
end
def ZeM (b0_1:List En) (b0_2:List Ac) (b0_3:List Al) (b0_4:Int) (b0_5:Bool) (b1:List E) (b1_1:List En) (b1_2:List Ac) (b1_3:List Al) (b1_4:Int) (b1_5:Bool) (b0:List E) (i:Nat)  (d:E):Option (Unit⊕(JN⊕JO)):=
 optC b1[i]? (none) fun d18=>
  optC (Zdn (d,d18,())) (none) fun d19=>
  bif !d19 then
  some (Sum.inr (Sum.inr (false,b0,b0_1,b0_2,b0_3,b0_4,b0_5,b1,b1_1,b1_2,b1_3,b1_4,b1_5)))
 else some (Sum.inl ())
def Zkr (b0_1:List En) (b0_2:List Ac) (b0_3:List Al) (b0_4:Int) (b0_5:Bool) (b1:List E) (b1_1:List En) (b1_2:List Ac) (b1_3:List Al) (b1_4:Int) (b1_5:Bool) (b0:List E):Option (JN⊕JO):=
 some (Sum.inl (b0,b0_1,b0_2,b0_3,b0_4,b0_5,b1,b1_1,b1_2,b1_3,b1_4,b1_5))
abbrev ZGP (b0_1:List En) (b0_2:List Ac) (b0_3:List Al) (b0_4:Int) (b0_5:Bool) (b1:List E) (b1_1:List En) (b1_2:List Ac) (b1_3:List Al) (b1_4:Int) (b1_5:Bool) (b0:List E) (i:Nat) (s:Unit):YN:=((i:Int),b0,b0_1,b0_2,b0_3,b0_4,b0_5,b1,b1_1,b1_2,b1_3,b1_4,b1_5)
def ZkG (b0_1:List En) (b0_2:List Ac) (b0_3:List Al) (b0_4:Int) (b0_5:Bool) (b1:List E) (b1_1:List En) (b1_2:List Ac) (b1_3:List Al) (b1_4:Int) (b1_5:Bool) (b0:List E) (s:Unit):Option (JN⊕JO):=Zl (fun i s d=>ZeM b0_1 b0_2 b0_3 b0_4 b0_5 b1 b1_1 b1_2 b1_3 b1_4 b1_5 b0 i  d) (fun s=>Zkr b0_1 b0_2 b0_3 b0_4 b0_5 b1 b1_1 b1_2 b1_3 b1_4 b1_5 b0 ) 0 b0 s
theorem ZGa (b0_1:List En) (b0_2:List Ac) (b0_3:List Al) (b0_4:Int) (b0_5:Bool) (b1:List E) (b1_1:List En) (b1_2:List Ac) (b1_3:List Al) (b1_4:Int) (b1_5:Bool) (b0:List E) (s:Unit) (hl:b0.length<9223372036854775807):ZfL (0,b0,b0_1,b0_2,b0_3,b0_4,b0_5,b1,b1_1,b1_2,b1_3,b1_4,b1_5)=ZkG b0_1 b0_2 b0_3 b0_4 b0_5 b1 b1_1 b1_2 b1_3 b1_4 b1_5 b0 s:=by
 unfold ZfL ZkG
 refine Zk b0 (ZGP b0_1 b0_2 b0_3 b0_4 b0_5 b1 b1_1 b1_2 b1_3 b1_4 b1_5 b0) _ _ ?_ ?_ s (by unfold Zj;omega)
 ·intro i s d hi hd
  have e1:decide ((i:Int)<(b0.length:Int))=true:=decide_eq_true (by omega)
  have e2:decide (0≤(i:Int))=true:=decide_eq_true (by omega)
  have e3:Int.toNat (i:Int)=i:=Int.toNat_natCast i
  have e4:=Zm hi (Nat.le_of_lt hl)
  show Zb7 ((i:Int)) (b0) (b0_1) (b0_2) (b0_3) (b0_4) (b0_5) (b1) (b1_1) (b1_2) (b1_3) (b1_4) (b1_5)=upd _ (ZeM b0_1 b0_2 b0_3 b0_4 b0_5 b1 b1_1 b1_2 b1_3 b1_4 b1_5 b0 i  d)
  unfold Zb7 ZeM
  simp only [e1,e2,e3,e4,hd,cond_true,cond_false,Zb,Zv,Zy,Zw,ZB,ZC,Zx]
 ·intro s
  have e1:decide ((b0.length:Int)<(b0.length:Int))=false:=decide_eq_false (by omega)
  show Zb7 ((b0.length:Int)) (b0) (b0_1) (b0_2) (b0_3) (b0_4) (b0_5) (b1) (b1_1) (b1_2) (b1_3) (b1_4) (b1_5)=_
  unfold Zb7 Zkr
  rw [e1]
  rfl
def ZeN (b0:List E) (b0_1:List En) (b0_3:List Al) (b0_4:Int) (b0_5:Bool) (b1:List E) (b1_1:List En) (b1_2:List Ac) (b1_3:List Al) (b1_4:Int) (b1_5:Bool) (b0_2:List Ac) (i:Nat)  (d:Ac):Option (Unit⊕(JP⊕JQ)):=
 optC b1_2[i]? (none) fun d18=>
  bif !(d.1==d18.1&&(d.2.1==d18.2.1&&(d.2.2.1==d18.2.2.1&&(d.2.2.2.1==d18.2.2.2.1&&(d.2.2.2.2.1==d18.2.2.2.2.1&&d.2.2.2.2.2==d18.2.2.2.2.2))))) then
  some (Sum.inr (Sum.inr (false,b0,b0_1,b0_2,b0_3,b0_4,b0_5,b1,b1_1,b1_2,b1_3,b1_4,b1_5)))
 else some (Sum.inl ())
def Zks (b0:List E) (b0_1:List En) (b0_3:List Al) (b0_4:Int) (b0_5:Bool) (b1:List E) (b1_1:List En) (b1_2:List Ac) (b1_3:List Al) (b1_4:Int) (b1_5:Bool) (b0_2:List Ac):Option (JP⊕JQ):=
 some (Sum.inl (b0,b0_1,b0_2,b0_3,b0_4,b0_5,b1,b1_1,b1_2,b1_3,b1_4,b1_5))
abbrev ZGQ (b0:List E) (b0_1:List En) (b0_3:List Al) (b0_4:Int) (b0_5:Bool) (b1:List E) (b1_1:List En) (b1_2:List Ac) (b1_3:List Al) (b1_4:Int) (b1_5:Bool) (b0_2:List Ac) (i:Nat) (s:Unit):YO:=((i:Int),b0,b0_1,b0_2,b0_3,b0_4,b0_5,b1,b1_1,b1_2,b1_3,b1_4,b1_5)
def ZkH (b0:List E) (b0_1:List En) (b0_3:List Al) (b0_4:Int) (b0_5:Bool) (b1:List E) (b1_1:List En) (b1_2:List Ac) (b1_3:List Al) (b1_4:Int) (b1_5:Bool) (b0_2:List Ac) (s:Unit):Option (JP⊕JQ):=Zl (fun i s d=>ZeN b0 b0_1 b0_3 b0_4 b0_5 b1 b1_1 b1_2 b1_3 b1_4 b1_5 b0_2 i  d) (fun s=>Zks b0 b0_1 b0_3 b0_4 b0_5 b1 b1_1 b1_2 b1_3 b1_4 b1_5 b0_2 ) 0 b0_2 s
theorem ZGb (b0:List E) (b0_1:List En) (b0_3:List Al) (b0_4:Int) (b0_5:Bool) (b1:List E) (b1_1:List En) (b1_2:List Ac) (b1_3:List Al) (b1_4:Int) (b1_5:Bool) (b0_2:List Ac) (s:Unit) (hl:b0_2.length<9223372036854775807):ZfM (0,b0,b0_1,b0_2,b0_3,b0_4,b0_5,b1,b1_1,b1_2,b1_3,b1_4,b1_5)=ZkH b0 b0_1 b0_3 b0_4 b0_5 b1 b1_1 b1_2 b1_3 b1_4 b1_5 b0_2 s:=by
 unfold ZfM ZkH
 refine Zk b0_2 (ZGQ b0 b0_1 b0_3 b0_4 b0_5 b1 b1_1 b1_2 b1_3 b1_4 b1_5 b0_2) _ _ ?_ ?_ s (by unfold Zj;omega)
 ·intro i s d hi hd
  have e1:decide ((i:Int)<(b0_2.length:Int))=true:=decide_eq_true (by omega)
  have e2:decide (0≤(i:Int))=true:=decide_eq_true (by omega)
  have e3:Int.toNat (i:Int)=i:=Int.toNat_natCast i
  have e4:=Zm hi (Nat.le_of_lt hl)
  show Zb8 ((i:Int)) (b0) (b0_1) (b0_2) (b0_3) (b0_4) (b0_5) (b1) (b1_1) (b1_2) (b1_3) (b1_4) (b1_5)=upd _ (ZeN b0 b0_1 b0_3 b0_4 b0_5 b1 b1_1 b1_2 b1_3 b1_4 b1_5 b0_2 i  d)
  unfold Zb8 ZeN
  simp only [e1,e2,e3,e4,hd,cond_true,cond_false,Zb,Zv,Zy,Zw,ZB,ZC,Zx]
 ·intro s
  have e1:decide ((b0_2.length:Int)<(b0_2.length:Int))=false:=decide_eq_false (by omega)
  show Zb8 ((b0_2.length:Int)) (b0) (b0_1) (b0_2) (b0_3) (b0_4) (b0_5) (b1) (b1_1) (b1_2) (b1_3) (b1_4) (b1_5)=_
  unfold Zb8 Zks
  rw [e1]
  rfl
def ZeO (b0:List E) (b0_1:List En) (b0_2:List Ac) (b0_4:Int) (b0_5:Bool) (b1:List E) (b1_1:List En) (b1_2:List Ac) (b1_3:List Al) (b1_4:Int) (b1_5:Bool) (b0_3:List Al) (i:Nat)  (d:Al):Option (Unit⊕(JR⊕JS)):=
 optC b1_3[i]? (none) fun d18=>
  bif !(d.1==d18.1&&(d.2.1==d18.2.1&&(d.2.2.1==d18.2.2.1&&(d.2.2.2.1==d18.2.2.2.1&&(d.2.2.2.2.1==d18.2.2.2.2.1&&d.2.2.2.2.2==d18.2.2.2.2.2))))) then
  some (Sum.inr (Sum.inr false))
 else some (Sum.inl ())
def Zkt (b0:List E) (b0_1:List En) (b0_2:List Ac) (b0_4:Int) (b0_5:Bool) (b1:List E) (b1_1:List En) (b1_2:List Ac) (b1_3:List Al) (b1_4:Int) (b1_5:Bool) (b0_3:List Al):Option (JR⊕JS):=
 some (Sum.inl PUnit.unit)
abbrev ZGR (b0:List E) (b0_1:List En) (b0_2:List Ac) (b0_4:Int) (b0_5:Bool) (b1:List E) (b1_1:List En) (b1_2:List Ac) (b1_3:List Al) (b1_4:Int) (b1_5:Bool) (b0_3:List Al) (i:Nat) (s:Unit):YP:=((i:Int),b0,b0_1,b0_2,b0_3,b0_4,b0_5,b1,b1_1,b1_2,b1_3,b1_4,b1_5)
def ZkI (b0:List E) (b0_1:List En) (b0_2:List Ac) (b0_4:Int) (b0_5:Bool) (b1:List E) (b1_1:List En) (b1_2:List Ac) (b1_3:List Al) (b1_4:Int) (b1_5:Bool) (b0_3:List Al) (s:Unit):Option (JR⊕JS):=Zl (fun i s d=>ZeO b0 b0_1 b0_2 b0_4 b0_5 b1 b1_1 b1_2 b1_3 b1_4 b1_5 b0_3 i  d) (fun s=>Zkt b0 b0_1 b0_2 b0_4 b0_5 b1 b1_1 b1_2 b1_3 b1_4 b1_5 b0_3 ) 0 b0_3 s
theorem ZGc (b0:List E) (b0_1:List En) (b0_2:List Ac) (b0_4:Int) (b0_5:Bool) (b1:List E) (b1_1:List En) (b1_2:List Ac) (b1_3:List Al) (b1_4:Int) (b1_5:Bool) (b0_3:List Al) (s:Unit) (hl:b0_3.length<9223372036854775807):ZfN (0,b0,b0_1,b0_2,b0_3,b0_4,b0_5,b1,b1_1,b1_2,b1_3,b1_4,b1_5)=ZkI b0 b0_1 b0_2 b0_4 b0_5 b1 b1_1 b1_2 b1_3 b1_4 b1_5 b0_3 s:=by
 unfold ZfN ZkI
 refine Zk b0_3 (ZGR b0 b0_1 b0_2 b0_4 b0_5 b1 b1_1 b1_2 b1_3 b1_4 b1_5 b0_3) _ _ ?_ ?_ s (by unfold Zj;omega)
 ·intro i s d hi hd
  have e1:decide ((i:Int)<(b0_3.length:Int))=true:=decide_eq_true (by omega)
  have e2:decide (0≤(i:Int))=true:=decide_eq_true (by omega)
  have e3:Int.toNat (i:Int)=i:=Int.toNat_natCast i
  have e4:=Zm hi (Nat.le_of_lt hl)
  show Zb9 ((i:Int)) (b0) (b0_1) (b0_2) (b0_3) (b0_4) (b0_5) (b1) (b1_1) (b1_2) (b1_3) (b1_4) (b1_5)=upd _ (ZeO b0 b0_1 b0_2 b0_4 b0_5 b1 b1_1 b1_2 b1_3 b1_4 b1_5 b0_3 i  d)
  unfold Zb9 ZeO
  simp only [e1,e2,e3,e4,hd,cond_true,cond_false,Zb,Zv,Zy,Zw,ZB,ZC,Zx]
 ·intro s
  have e1:decide ((b0_3.length:Int)<(b0_3.length:Int))=false:=decide_eq_false (by omega)
  show Zb9 ((b0_3.length:Int)) (b0) (b0_1) (b0_2) (b0_3) (b0_4) (b0_5) (b1) (b1_1) (b1_2) (b1_3) (b1_4) (b1_5)=_
  unfold Zb9 Zkt
  rw [e1]
  rfl
section
open Go.Proofs Go.Proofs.YtbdcblpjemmipaaGreat
def Zw5:List Sh:=[.dat tU,.dat (.int .i64),.dat (.sl tEn)]
def ZAj:List Con:=[⟨22,Zd0,Zhl⟩,⟨24,Zhu,Zl7⟩,⟨25,ZHO,ZSY⟩,⟨23,ZDD,ZQW⟩,⟨26,Zd1,Zhm⟩]
def Znp (a0:U) (a1:Int) (a2:List En):Option Bool:=
 optC (Jt (a0,a1,a2,())) none fun d4=>
 bif !d4 then some true
 else
 optC (ZaX (a0,a1,a2,())) none fun d5=>
 optC (ZBZ (a0,a1,a2,())) none fun d6=>
 optC (Zy0 (d5,d6,())) none fun d7=>bif d7 then optC (ZO ()) none fun d8=>some d8 else some false
theorem ZLM (a0:U) (a1:Int) (a2:List En):evGX (cxU ZAj [] 40 1048576) keeps 8 5 Zw5 (.dat .bool) ((a0,a1,a2,()):(U×(Int×((List En)×Unit))))=Znp a0 a1 a2:=by kernel_rfl
def ZOb (x:(U×(Int×((List En)×Unit)))):Option Bool:=Znp x.1 x.2.1 x.2.2.1
def ZLC:List AV→Prog AV:=conP true Zw5 (.dat .bool) ZOb
theorem ZZB:Zd Tryz.prog 5 ZLC:=Zc (calU ZAj [] 40 1048576 8 5) true (by rfl) (by rfl) (fun x r e=>(Zg _ _ _ _ _ _ _).trans ((ZLM x.1 x.2.1 x.2.2.1).trans e)) (.inl rfl)
end
theorem Z1N (r:Re) (h:∀ x∈r.1,x.1=true→szE x) (h1:r.1.length<2305843009213693952) (h2:r.2.1.length<2305843009213693952) (h3:r.2.2.1.length<2305843009213693952) (h4:r.2.2.2.1.length<2305843009213693952):ZsJ r r=some true:=by
 obtain ⟨es,st,ac,al,n,d⟩:=r
 simp only at h h1 h2 h3 h4
 have s1:=ZUl st st h2
 rw [decide_eq_true rfl] at s1
 have a1:=ZGa st ac al n d es st ac al n d es () (by omega)
 unfold ZkG at a1
 rw [Zhk es 0 fun j e he=>?_] at a1
 ·have a2:=ZGb es st al n d es st ac al n d ac () (by omega)
  unfold ZkH at a2
  rw [Zhk ac 0 fun j e he=>?_] at a2
  ·have a3:=ZGc es st ac n d es st ac al n d al () (by omega)
   unfold ZkI at a3
   rw [Zhk al 0 fun j e he=>?_] at a3
   ·unfold ZsJ
    have q:∀ x:Int,(x !=x)=false:=fun x=>by simp
    have q2:(!d==d)=false:=by cases d<;>rfl
    simp only [q,q2,cond_false,ZyZ,s1,Zb,Bool.not_true,a1,Zkr,Sum.elim_inl,a2,Zks,a3,Zkt]
   ·unfold ZeO
    rw [Nat.zero_add,he]
    simp only [Zb,beq_self_eq_true,Bool.and_true,Bool.not_true,cond_false]
  ·unfold ZeN
   rw [Nat.zero_add,he]
   simp only [Zb,beq_self_eq_true,Bool.and_true,Bool.not_true,cond_false]
 ·unfold ZeM
  rw [Nat.zero_add,he]
  simp only [Zb,Zdn,ZwT (h e (List.mem_of_getElem? he)),ZRW,Bool.not_true,cond_false]
theorem Z5i (u:U) (t:Int) (l:List En) (hs:sizeU u) (hl:l.length<9223372036854775807):Znp u t l=some true:=by
 unfold Znp
 obtain ⟨b,h1,h2⟩:=Zed u t l hs hl
 simp only [Jt,h1,Zb]
 cases b
 ·rfl
 obtain ⟨hu,ht,hn,hk⟩:=h2 rfl
 obtain ⟨c,hc⟩:=ZLc ht
 have cl:=(hu.ts c (List.mem_of_getElem? hc)).n
 obtain ⟨r1,r2,v,g⟩:=ZuY hu ht.1 hk (by omega) hc
 have sm:=Z1N (resV u t l (ZJ u) c) (fun x hx=>(fun _=>(v.ok x hx).sz hu)) (by have:=v.le;show (endV u t l (ZJ u) c).1.length<_;omega) (by have:=g.a;show (gatE u t l (ZJ u) c).1.length<_;omega) (by have:=g.b;show (gatE u t l (ZJ u) c).2.1.length<_;omega) (by have:=g.c;show (gatE u t l (ZJ u) c).2.2.length<_;omega)
 simp only [Bool.not_true,cond_false,ZaX,r1,ZBZ,r2,Zb,Zy0,sm,cond_true,ZO,ZyT]
end
end Go.Proofs.YtbdcblpjemmipaaGreat.Ex
