/- A part of the proofs of what is known of threads: GG. -/
import Derived.Test.YtbdcblpjemmipaaGreatGF
namespace Go.Proofs.YtbdcblpjemmipaaGreat.Ex
open Go.Proofs
set_option maxRecDepth 100000
set_option maxHeartbeats 4000000
set_option linter.unusedVariables false
set_option linter.unusedSimpArgs false
set_option linter.unusedSectionVars false
noncomputable section
theorem ZsP {X Y:Type} {step:X→Option (X⊕Y)}:∀ (n m:Nat) (x:X) (y:Y),n≤m→iterO step n x=some y→iterO step m x=some y
 | 0,_,_,_,_,e=>nomatch e
 | n+1,m,x,y,h,e=>by
  obtain ⟨m,rfl⟩:∃ k,m=k+1:=⟨m - 1,by omega⟩
  rw [iterO] at e ⊢
  cases hs:step x with
  | none=>rw [hs] at e;cases e
  | some r=>
   rw [hs] at e
   cases r with
   | inl x'=>exact ZsP n m x' y (by omega) e
   | inr y'=>exact e
theorem Qq (n:Int):Zvl n=some (fitB n):=by
 unfold Zvl fitB
 cases decide (n≥-2147483648)<;>rfl
theorem ZRE (x:I):ZBq x=some (isB x):=by
 unfold ZBq Zn isB
 simp only [Qq,Zb]
 cases (x.1==1&&x.2==0)
 ·cases decide (x.1≤x.2)
  ·rfl
  ·cases fitB x.1<;>rfl
 ·rfl
def inB (k n:Int):Bool:=decide (k≥0)&&decide (k<n)
theorem Kd (k n:Int):ZBr k n=some (inB k n):=by
 unfold ZBr inB
 cases decide (k≥0)<;>rfl
theorem Z3b:Zo 0 1=some false:=by kernel_rfl
theorem Z3c:Zo 0 2=some false:=by kernel_rfl
theorem Z3d:Zo 0 3=some false:=by kernel_rfl
theorem Z3e:Zo 0 4=some false:=by kernel_rfl
theorem Z3f:Zo 1 1=some true:=by kernel_rfl
theorem Z3g:Zo 1 2=some false:=by kernel_rfl
theorem Z3h:Zo 1 3=some false:=by kernel_rfl
theorem Z3i:Zo 1 4=some false:=by kernel_rfl
theorem Z3j:Zo 2 1=some true:=by kernel_rfl
theorem Z3k:Zo 2 2=some true:=by kernel_rfl
theorem Z3l:Zo 2 3=some false:=by kernel_rfl
theorem Z3m:Zo 2 4=some false:=by kernel_rfl
theorem Z3n:Zo 3 1=some true:=by kernel_rfl
theorem Z3o:Zo 3 2=some false:=by kernel_rfl
theorem Z3p:Zo 3 3=some false:=by kernel_rfl
theorem Z3q:Zo 3 4=some false:=by kernel_rfl
theorem Z3r:Zo 4 1=some true:=by kernel_rfl
theorem Z3s:Zo 4 2=some true:=by kernel_rfl
theorem Z3t:Zo 4 3=some true:=by kernel_rfl
theorem Z3u:Zo 4 4=some false:=by kernel_rfl
theorem Z3v:Zo 5 1=some true:=by kernel_rfl
theorem Z3w:Zo 5 2=some false:=by kernel_rfl
theorem Z3x:Zo 5 3=some false:=by kernel_rfl
theorem Z3y:Zo 5 4=some true:=by kernel_rfl
theorem Z3z:Zo 6 1=some false:=by kernel_rfl
theorem Z3A:Zo 6 2=some true:=by kernel_rfl
theorem Z3B:Zo 6 3=some false:=by kernel_rfl
theorem Z3C:Zo 6 4=some true:=by kernel_rfl
theorem Z3D:Zo 7 1=some true:=by kernel_rfl
theorem Z3E:Zo 7 2=some true:=by kernel_rfl
theorem Z3F:Zo 7 3=some false:=by kernel_rfl
theorem Z3G:Zo 7 4=some true:=by kernel_rfl
theorem Z3H:Zo 8 1=some false:=by kernel_rfl
theorem Z3I:Zo 8 2=some true:=by kernel_rfl
theorem Z3J:Zo 8 3=some true:=by kernel_rfl
theorem Z3K:Zo 8 4=some true:=by kernel_rfl
theorem Z3L:Zo 9 1=some false:=by kernel_rfl
theorem Z3M:Zo 9 2=some false:=by kernel_rfl
theorem Z3N:Zo 9 3=some false:=by kernel_rfl
theorem Z3O:Zo 9 4=some true:=by kernel_rfl
theorem Z1U:Zo 10 1=some false:=by kernel_rfl
theorem Z1V:Zo 10 2=some false:=by kernel_rfl
theorem Z1W:Zo 10 3=some false:=by kernel_rfl
theorem Z1X:Zo 10 4=some true:=by kernel_rfl
theorem Z1Y:Zo 11 1=some false:=by kernel_rfl
theorem Z1Z:Zo 11 2=some true:=by kernel_rfl
theorem Z10:Zo 11 3=some true:=by kernel_rfl
theorem Z11:Zo 11 4=some false:=by kernel_rfl
theorem Z12:Zo 12 1=some false:=by kernel_rfl
theorem Z13:Zo 12 2=some false:=by kernel_rfl
theorem Z14:Zo 12 3=some false:=by kernel_rfl
theorem Z15:Zo 12 4=some false:=by kernel_rfl
theorem Z16:Zo 13 1=some false:=by kernel_rfl
theorem Z17:Zo 13 2=some false:=by kernel_rfl
theorem Z18:Zo 13 3=some false:=by kernel_rfl
theorem Z19:Zo 13 4=some false:=by kernel_rfl
theorem Z2a:Zo 14 1=some false:=by kernel_rfl
theorem Z2b:Zo 14 2=some false:=by kernel_rfl
theorem Z2c:Zo 14 3=some false:=by kernel_rfl
theorem Z2d:Zo 14 4=some false:=by kernel_rfl
def usesB (k f:Int):Bool:=
 if f=1 then k==1||k==2||k==3||k==4||k==5||k==7
 else if f=2 then k==2||k==4||k==6||k==7||k==8||k==11
 else if f=3 then k==4||k==8||k==11
 else k==5||k==6||k==7||k==8||k==9||k==10
theorem ZVN (k f:Int) (hk:0≤k∧k≤14) (hf:1≤f∧f≤4):Zo k f=some (usesB k f):=by
 have h1:k=0∨k=1∨k=2∨k=3∨k=4∨k=5∨k=6∨k=7∨k=8∨k=9∨k=10∨k=11∨k=12∨k=13∨k=14:=by omega
 have h2:f=1∨f=2∨f=3∨f=4:=by omega
 rcases h1 with rfl | rfl | rfl | rfl | rfl | rfl | rfl | rfl | rfl | rfl | rfl | rfl | rfl | rfl | rfl<;>rcases h2 with rfl | rfl | rfl | rfl
 ·exact Z3b
 ·exact Z3c
 ·exact Z3d
 ·exact Z3e
 ·exact Z3f
 ·exact Z3g
 ·exact Z3h
 ·exact Z3i
 ·exact Z3j
 ·exact Z3k
 ·exact Z3l
 ·exact Z3m
 ·exact Z3n
 ·exact Z3o
 ·exact Z3p
 ·exact Z3q
 ·exact Z3r
 ·exact Z3s
 ·exact Z3t
 ·exact Z3u
 ·exact Z3v
 ·exact Z3w
 ·exact Z3x
 ·exact Z3y
 ·exact Z3z
 ·exact Z3A
 ·exact Z3B
 ·exact Z3C
 ·exact Z3D
 ·exact Z3E
 ·exact Z3F
 ·exact Z3G
 ·exact Z3H
 ·exact Z3I
 ·exact Z3J
 ·exact Z3K
 ·exact Z3L
 ·exact Z3M
 ·exact Z3N
 ·exact Z3O
 ·exact Z1U
 ·exact Z1V
 ·exact Z1W
 ·exact Z1X
 ·exact Z1Y
 ·exact Z1Z
 ·exact Z10
 ·exact Z11
 ·exact Z12
 ·exact Z13
 ·exact Z14
 ·exact Z15
 ·exact Z16
 ·exact Z17
 ·exact Z18
 ·exact Z19
 ·exact Z2a
 ·exact Z2b
 ·exact Z2c
 ·exact Z2d
def hasV (k f v bd:Int):Bool:=if usesB k f=true then inB v bd else v==0
theorem Zr (k f v bd:Int) (hk:0≤k∧k≤14) (hf:1≤f∧f≤4):Zyr k f v bd=some (hasV k f v bd):=by
 unfold Zyr ZB0 Zf hasV
 simp only [ZVN k f hk hf,Kd,Zb]
 cases usesB k f<;>rfl
def gBd (u:U) (k:Int):Int:=if k=5∨k=6 then (u.1.length:Int) else if k=7∨k=8 then (u.2.1.length:Int) else u.2.2.1
structure actOK (u:U) (c:C) (a:A):Prop where
 k1:1≤a.1
 k2:a.1≤14
 n:fitB a.2.2.2.2.2.1=true
 n0:a.1≠1→a.2.2.2.2.2.1=0
 nx:0≤a.2.2.2.2.2.2.2.1∧a.2.2.2.2.2.2.2.1<(c.2.length:Int)
 el:0≤a.2.2.2.2.2.2.2.2∧a.2.2.2.2.2.2.2.2<(c.2.length:Int)
 el0:a.1≠11→a.2.2.2.2.2.2.2.2=0
 op4:a.1=4→1≤a.2.2.2.2.2.2.1∧a.2.2.2.2.2.2.1≤5
 op11:a.1=11→1≤a.2.2.2.2.2.2.1∧a.2.2.2.2.2.2.1≤6
 op0:a.1≠4→a.1≠11→a.2.2.2.2.2.2.1=0
 h1:hasV a.1 1 a.2.1 c.1=true
 h2:hasV a.1 2 a.2.2.1 c.1=true
 h3:hasV a.1 3 a.2.2.2.1 c.1=true
 h4:hasV a.1 4 a.2.2.2.2.1 (gBd u a.1)=true
theorem Z30 (a0:U) (a1:C) (T X Y G N op nx el:Int):ZG a0 a1 (1,T,X,Y,G,N,op,nx,el) =
 optC (Zn (N,())) (none) fun d4=>
  bif !d4 then
  some false
 else optC (Zf (nx,(↑(List.length a1.2):Int),())) (none) fun d5=>
  bif !d5 then
  some false
 else optC (Zf (el,(↑(List.length a1.2):Int),())) (none) fun d6=>
  bif !d6 then
  some false
 else bif el !=0 then
  some false
 else bif op !=0 then
  some false
 else optC (Za (1,1,T,a1.1,())) (none) fun d7=>
  bif d7 then
  optC (Za (1,2,X,0,())) (none) fun d8=>
  bif d8 then
  optC (Za (1,3,Y,0,())) (none) fun d9=>
  bif d9 then
  optC (Za (1,4,G,0,())) (none) fun d10=>
  some d10
 else some false
 else some false
 else some false:=by kernel_rfl
theorem Z31 (a0:U) (a1:C) (T X Y G N op nx el:Int):ZG a0 a1 (2,T,X,Y,G,N,op,nx,el) =
 bif N !=0 then
  some false
 else optC (Zn (N,())) (none) fun d4=>
  bif !d4 then
  some false
 else optC (Zf (nx,(↑(List.length a1.2):Int),())) (none) fun d5=>
  bif !d5 then
  some false
 else optC (Zf (el,(↑(List.length a1.2):Int),())) (none) fun d6=>
  bif !d6 then
  some false
 else bif el !=0 then
  some false
 else bif op !=0 then
  some false
 else optC (Za (2,1,T,a1.1,())) (none) fun d7=>
  bif d7 then
  optC (Za (2,2,X,a1.1,())) (none) fun d8=>
  bif d8 then
  optC (Za (2,3,Y,0,())) (none) fun d9=>
  bif d9 then
  optC (Za (2,4,G,0,())) (none) fun d10=>
  some d10
 else some false
 else some false
 else some false:=by kernel_rfl
theorem Z32 (a0:U) (a1:C) (T X Y G N op nx el:Int):ZG a0 a1 (3,T,X,Y,G,N,op,nx,el) =
 bif N !=0 then
  some false
 else optC (Zn (N,())) (none) fun d4=>
  bif !d4 then
  some false
 else optC (Zf (nx,(↑(List.length a1.2):Int),())) (none) fun d5=>
  bif !d5 then
  some false
 else optC (Zf (el,(↑(List.length a1.2):Int),())) (none) fun d6=>
  bif !d6 then
  some false
 else bif el !=0 then
  some false
 else bif op !=0 then
  some false
 else optC (Za (3,1,T,a1.1,())) (none) fun d7=>
  bif d7 then
  optC (Za (3,2,X,0,())) (none) fun d8=>
  bif d8 then
  optC (Za (3,3,Y,0,())) (none) fun d9=>
  bif d9 then
  optC (Za (3,4,G,0,())) (none) fun d10=>
  some d10
 else some false
 else some false
 else some false:=by kernel_rfl
theorem Z33 (a0:U) (a1:C) (T X Y G N op nx el:Int):ZG a0 a1 (4,T,X,Y,G,N,op,nx,el) =
 bif N !=0 then
  some false
 else optC (Zn (N,())) (none) fun d4=>
  bif !d4 then
  some false
 else optC (Zf (nx,(↑(List.length a1.2):Int),())) (none) fun d5=>
  bif !d5 then
  some false
 else optC (Zf (el,(↑(List.length a1.2):Int),())) (none) fun d6=>
  bif !d6 then
  some false
 else bif el !=0 then
  some false
 else bif decide (op<1) then
  some false
 else bif decide (op≥6) then
  some false
 else optC (Za (4,1,T,a1.1,())) (none) fun d7=>
  bif d7 then
  optC (Za (4,2,X,a1.1,())) (none) fun d8=>
  bif d8 then
  optC (Za (4,3,Y,a1.1,())) (none) fun d9=>
  bif d9 then
  optC (Za (4,4,G,0,())) (none) fun d10=>
  some d10
 else some false
 else some false
 else some false:=by kernel_rfl
theorem Z34 (a0:U) (a1:C) (T X Y G N op nx el:Int):ZG a0 a1 (5,T,X,Y,G,N,op,nx,el) =
 bif N !=0 then
  some false
 else optC (Zn (N,())) (none) fun d4=>
  bif !d4 then
  some false
 else optC (Zf (nx,(↑(List.length a1.2):Int),())) (none) fun d5=>
  bif !d5 then
  some false
 else optC (Zf (el,(↑(List.length a1.2):Int),())) (none) fun d6=>
  bif !d6 then
  some false
 else bif el !=0 then
  some false
 else bif op !=0 then
  some false
 else optC (Za (5,1,T,a1.1,())) (none) fun d7=>
  bif d7 then
  optC (Za (5,2,X,0,())) (none) fun d8=>
  bif d8 then
  optC (Za (5,3,Y,0,())) (none) fun d9=>
  bif d9 then
  optC (Za (5,4,G,(↑(List.length a0.1):Int),())) (none) fun d10=>
  some d10
 else some false
 else some false
 else some false:=by kernel_rfl
theorem Z35 (a0:U) (a1:C) (T X Y G N op nx el:Int):ZG a0 a1 (6,T,X,Y,G,N,op,nx,el) =
 bif N !=0 then
  some false
 else optC (Zn (N,())) (none) fun d4=>
  bif !d4 then
  some false
 else optC (Zf (nx,(↑(List.length a1.2):Int),())) (none) fun d5=>
  bif !d5 then
  some false
 else optC (Zf (el,(↑(List.length a1.2):Int),())) (none) fun d6=>
  bif !d6 then
  some false
 else bif el !=0 then
  some false
 else bif op !=0 then
  some false
 else optC (Za (6,1,T,0,())) (none) fun d7=>
  bif d7 then
  optC (Za (6,2,X,a1.1,())) (none) fun d8=>
  bif d8 then
  optC (Za (6,3,Y,0,())) (none) fun d9=>
  bif d9 then
  optC (Za (6,4,G,(↑(List.length a0.1):Int),())) (none) fun d10=>
  some d10
 else some false
 else some false
 else some false:=by kernel_rfl
theorem Z36 (a0:U) (a1:C) (T X Y G N op nx el:Int):ZG a0 a1 (7,T,X,Y,G,N,op,nx,el) =
 bif N !=0 then
  some false
 else optC (Zn (N,())) (none) fun d4=>
  bif !d4 then
  some false
 else optC (Zf (nx,(↑(List.length a1.2):Int),())) (none) fun d5=>
  bif !d5 then
  some false
 else optC (Zf (el,(↑(List.length a1.2):Int),())) (none) fun d6=>
  bif !d6 then
  some false
 else bif el !=0 then
  some false
 else bif op !=0 then
  some false
 else optC (Za (7,1,T,a1.1,())) (none) fun d7=>
  bif d7 then
  optC (Za (7,2,X,a1.1,())) (none) fun d8=>
  bif d8 then
  optC (Za (7,3,Y,0,())) (none) fun d9=>
  bif d9 then
  optC (Za (7,4,G,(↑(List.length a0.2.1):Int),())) (none) fun d10=>
  some d10
 else some false
 else some false
 else some false:=by kernel_rfl
theorem Z37 (a0:U) (a1:C) (T X Y G N op nx el:Int):ZG a0 a1 (8,T,X,Y,G,N,op,nx,el) =
 bif N !=0 then
  some false
 else optC (Zn (N,())) (none) fun d4=>
  bif !d4 then
  some false
 else optC (Zf (nx,(↑(List.length a1.2):Int),())) (none) fun d5=>
  bif !d5 then
  some false
 else optC (Zf (el,(↑(List.length a1.2):Int),())) (none) fun d6=>
  bif !d6 then
  some false
 else bif el !=0 then
  some false
 else bif op !=0 then
  some false
 else optC (Za (8,1,T,0,())) (none) fun d7=>
  bif d7 then
  optC (Za (8,2,X,a1.1,())) (none) fun d8=>
  bif d8 then
  optC (Za (8,3,Y,a1.1,())) (none) fun d9=>
  bif d9 then
  optC (Za (8,4,G,(↑(List.length a0.2.1):Int),())) (none) fun d10=>
  some d10
 else some false
 else some false
 else some false:=by kernel_rfl
theorem Z38 (a0:U) (a1:C) (T X Y G N op nx el:Int):ZG a0 a1 (9,T,X,Y,G,N,op,nx,el) =
 bif N !=0 then
  some false
 else optC (Zn (N,())) (none) fun d4=>
  bif !d4 then
  some false
 else optC (Zf (nx,(↑(List.length a1.2):Int),())) (none) fun d5=>
  bif !d5 then
  some false
 else optC (Zf (el,(↑(List.length a1.2):Int),())) (none) fun d6=>
  bif !d6 then
  some false
 else bif el !=0 then
  some false
 else bif op !=0 then
  some false
 else optC (Za (9,1,T,0,())) (none) fun d7=>
  bif d7 then
  optC (Za (9,2,X,0,())) (none) fun d8=>
  bif d8 then
  optC (Za (9,3,Y,0,())) (none) fun d9=>
  bif d9 then
  optC (Za (9,4,G,a0.2.2.1,())) (none) fun d10=>
  some d10
 else some false
 else some false
 else some false:=by kernel_rfl
theorem Z2r (a0:U) (a1:C) (T X Y G N op nx el:Int):ZG a0 a1 (10,T,X,Y,G,N,op,nx,el) =
 bif N !=0 then
  some false
 else optC (Zn (N,())) (none) fun d4=>
  bif !d4 then
  some false
 else optC (Zf (nx,(↑(List.length a1.2):Int),())) (none) fun d5=>
  bif !d5 then
  some false
 else optC (Zf (el,(↑(List.length a1.2):Int),())) (none) fun d6=>
  bif !d6 then
  some false
 else bif el !=0 then
  some false
 else bif op !=0 then
  some false
 else optC (Za (10,1,T,0,())) (none) fun d7=>
  bif d7 then
  optC (Za (10,2,X,0,())) (none) fun d8=>
  bif d8 then
  optC (Za (10,3,Y,0,())) (none) fun d9=>
  bif d9 then
  optC (Za (10,4,G,a0.2.2.1,())) (none) fun d10=>
  some d10
 else some false
 else some false
 else some false:=by kernel_rfl
theorem Z2s (a0:U) (a1:C) (T X Y G N op nx el:Int):ZG a0 a1 (11,T,X,Y,G,N,op,nx,el) =
 bif N !=0 then
  some false
 else optC (Zn (N,())) (none) fun d4=>
  bif !d4 then
  some false
 else optC (Zf (nx,(↑(List.length a1.2):Int),())) (none) fun d5=>
  bif !d5 then
  some false
 else optC (Zf (el,(↑(List.length a1.2):Int),())) (none) fun d6=>
  bif !d6 then
  some false
 else bif decide (op<1) then
  some false
 else bif decide (op≥7) then
  some false
 else optC (Za (11,1,T,0,())) (none) fun d7=>
  bif d7 then
  optC (Za (11,2,X,a1.1,())) (none) fun d8=>
  bif d8 then
  optC (Za (11,3,Y,a1.1,())) (none) fun d9=>
  bif d9 then
  optC (Za (11,4,G,0,())) (none) fun d10=>
  some d10
 else some false
 else some false
 else some false:=by kernel_rfl
theorem Z2t (a0:U) (a1:C) (T X Y G N op nx el:Int):ZG a0 a1 (12,T,X,Y,G,N,op,nx,el) =
 bif N !=0 then
  some false
 else optC (Zn (N,())) (none) fun d4=>
  bif !d4 then
  some false
 else optC (Zf (nx,(↑(List.length a1.2):Int),())) (none) fun d5=>
  bif !d5 then
  some false
 else optC (Zf (el,(↑(List.length a1.2):Int),())) (none) fun d6=>
  bif !d6 then
  some false
 else bif el !=0 then
  some false
 else bif op !=0 then
  some false
 else optC (Za (12,1,T,0,())) (none) fun d7=>
  bif d7 then
  optC (Za (12,2,X,0,())) (none) fun d8=>
  bif d8 then
  optC (Za (12,3,Y,0,())) (none) fun d9=>
  bif d9 then
  optC (Za (12,4,G,0,())) (none) fun d10=>
  some d10
 else some false
 else some false
 else some false:=by kernel_rfl
theorem Z2u (a0:U) (a1:C) (T X Y G N op nx el:Int):ZG a0 a1 (13,T,X,Y,G,N,op,nx,el) =
 bif N !=0 then
  some false
 else optC (Zn (N,())) (none) fun d4=>
  bif !d4 then
  some false
 else optC (Zf (nx,(↑(List.length a1.2):Int),())) (none) fun d5=>
  bif !d5 then
  some false
 else optC (Zf (el,(↑(List.length a1.2):Int),())) (none) fun d6=>
  bif !d6 then
  some false
 else bif el !=0 then
  some false
 else bif op !=0 then
  some false
 else optC (Za (13,1,T,0,())) (none) fun d7=>
  bif d7 then
  optC (Za (13,2,X,0,())) (none) fun d8=>
  bif d8 then
  optC (Za (13,3,Y,0,())) (none) fun d9=>
  bif d9 then
  optC (Za (13,4,G,0,())) (none) fun d10=>
  some d10
 else some false
 else some false
 else some false:=by kernel_rfl
theorem Z2v (a0:U) (a1:C) (T X Y G N op nx el:Int):ZG a0 a1 (14,T,X,Y,G,N,op,nx,el) =
 bif N !=0 then
  some false
 else optC (Zn (N,())) (none) fun d4=>
  bif !d4 then
  some false
 else optC (Zf (nx,(↑(List.length a1.2):Int),())) (none) fun d5=>
  bif !d5 then
  some false
 else optC (Zf (el,(↑(List.length a1.2):Int),())) (none) fun d6=>
  bif !d6 then
  some false
 else bif el !=0 then
  some false
 else bif op !=0 then
  some false
 else optC (Za (14,1,T,0,())) (none) fun d7=>
  bif d7 then
  optC (Za (14,2,X,0,())) (none) fun d8=>
  bif d8 then
  optC (Za (14,3,Y,0,())) (none) fun d9=>
  bif d9 then
  optC (Za (14,4,G,0,())) (none) fun d10=>
  some d10
 else some false
 else some false
 else some false:=by kernel_rfl
theorem ZZG (u:U) (c:C) (T X Y G N op nx el:Int):∃ b,ZG u c (1,T,X,Y,G,N,op,nx,el)=some b∧(b=true→actOK u c (1,T,X,Y,G,N,op,nx,el)):=by
 rw [Z30]
 simp only [Zn,Qq,Zf,Kd,Za,Zr _ _ _ _ (show (0:Int)≤1∧(1:Int)≤14 by decide) (show (1:Int)≤1∧(1:Int)≤4 by decide),Zr _ _ _ _ (show (0:Int)≤1∧(1:Int)≤14 by decide) (show (1:Int)≤2∧(2:Int)≤4 by decide),Zr _ _ _ _ (show (0:Int)≤1∧(1:Int)≤14 by decide) (show (1:Int)≤3∧(3:Int)≤4 by decide),Zr _ _ _ _ (show (0:Int)≤1∧(1:Int)≤14 by decide) (show (1:Int)≤4∧(4:Int)≤4 by decide),Zb,cond_eq_ite]
 (repeat' split)<;>(refine ⟨_,rfl,fun hb=>?_⟩)<;>first | (cases hb;done) | skip
 all_goals (constructor<;>simp_all [inB,hasV,usesB,gBd]<;>omega)
theorem ZZH (u:U) (c:C) (T X Y G N op nx el:Int):∃ b,ZG u c (2,T,X,Y,G,N,op,nx,el)=some b∧(b=true→actOK u c (2,T,X,Y,G,N,op,nx,el)):=by
 rw [Z31]
 simp only [Zn,Qq,Zf,Kd,Za,Zr _ _ _ _ (show (0:Int)≤2∧(2:Int)≤14 by decide) (show (1:Int)≤1∧(1:Int)≤4 by decide),Zr _ _ _ _ (show (0:Int)≤2∧(2:Int)≤14 by decide) (show (1:Int)≤2∧(2:Int)≤4 by decide),Zr _ _ _ _ (show (0:Int)≤2∧(2:Int)≤14 by decide) (show (1:Int)≤3∧(3:Int)≤4 by decide),Zr _ _ _ _ (show (0:Int)≤2∧(2:Int)≤14 by decide) (show (1:Int)≤4∧(4:Int)≤4 by decide),Zb,cond_eq_ite]
 (repeat' split)<;>(refine ⟨_,rfl,fun hb=>?_⟩)<;>first | (cases hb;done) | skip
 all_goals (constructor<;>simp_all [inB,hasV,usesB,gBd]<;>omega)
theorem ZZI (u:U) (c:C) (T X Y G N op nx el:Int):∃ b,ZG u c (3,T,X,Y,G,N,op,nx,el)=some b∧(b=true→actOK u c (3,T,X,Y,G,N,op,nx,el)):=by
 rw [Z32]
 simp only [Zn,Qq,Zf,Kd,Za,Zr _ _ _ _ (show (0:Int)≤3∧(3:Int)≤14 by decide) (show (1:Int)≤1∧(1:Int)≤4 by decide),Zr _ _ _ _ (show (0:Int)≤3∧(3:Int)≤14 by decide) (show (1:Int)≤2∧(2:Int)≤4 by decide),Zr _ _ _ _ (show (0:Int)≤3∧(3:Int)≤14 by decide) (show (1:Int)≤3∧(3:Int)≤4 by decide),Zr _ _ _ _ (show (0:Int)≤3∧(3:Int)≤14 by decide) (show (1:Int)≤4∧(4:Int)≤4 by decide),Zb,cond_eq_ite]
 (repeat' split)<;>(refine ⟨_,rfl,fun hb=>?_⟩)<;>first | (cases hb;done) | skip
 all_goals (constructor<;>simp_all [inB,hasV,usesB,gBd]<;>omega)
theorem ZZJ (u:U) (c:C) (T X Y G N op nx el:Int):∃ b,ZG u c (4,T,X,Y,G,N,op,nx,el)=some b∧(b=true→actOK u c (4,T,X,Y,G,N,op,nx,el)):=by
 rw [Z33]
 simp only [Zn,Qq,Zf,Kd,Za,Zr _ _ _ _ (show (0:Int)≤4∧(4:Int)≤14 by decide) (show (1:Int)≤1∧(1:Int)≤4 by decide),Zr _ _ _ _ (show (0:Int)≤4∧(4:Int)≤14 by decide) (show (1:Int)≤2∧(2:Int)≤4 by decide),Zr _ _ _ _ (show (0:Int)≤4∧(4:Int)≤14 by decide) (show (1:Int)≤3∧(3:Int)≤4 by decide),Zr _ _ _ _ (show (0:Int)≤4∧(4:Int)≤14 by decide) (show (1:Int)≤4∧(4:Int)≤4 by decide),Zb,cond_eq_ite]
 (repeat' split)<;>(refine ⟨_,rfl,fun hb=>?_⟩)<;>first | (cases hb;done) | skip
 all_goals (constructor<;>simp_all [inB,hasV,usesB,gBd]<;>omega)
theorem ZZK (u:U) (c:C) (T X Y G N op nx el:Int):∃ b,ZG u c (5,T,X,Y,G,N,op,nx,el)=some b∧(b=true→actOK u c (5,T,X,Y,G,N,op,nx,el)):=by
 rw [Z34]
 simp only [Zn,Qq,Zf,Kd,Za,Zr _ _ _ _ (show (0:Int)≤5∧(5:Int)≤14 by decide) (show (1:Int)≤1∧(1:Int)≤4 by decide),Zr _ _ _ _ (show (0:Int)≤5∧(5:Int)≤14 by decide) (show (1:Int)≤2∧(2:Int)≤4 by decide),Zr _ _ _ _ (show (0:Int)≤5∧(5:Int)≤14 by decide) (show (1:Int)≤3∧(3:Int)≤4 by decide),Zr _ _ _ _ (show (0:Int)≤5∧(5:Int)≤14 by decide) (show (1:Int)≤4∧(4:Int)≤4 by decide),Zb,cond_eq_ite]
 (repeat' split)<;>(refine ⟨_,rfl,fun hb=>?_⟩)<;>first | (cases hb;done) | skip
 all_goals (constructor<;>simp_all [inB,hasV,usesB,gBd]<;>omega)
theorem ZZL (u:U) (c:C) (T X Y G N op nx el:Int):∃ b,ZG u c (6,T,X,Y,G,N,op,nx,el)=some b∧(b=true→actOK u c (6,T,X,Y,G,N,op,nx,el)):=by
 rw [Z35]
 simp only [Zn,Qq,Zf,Kd,Za,Zr _ _ _ _ (show (0:Int)≤6∧(6:Int)≤14 by decide) (show (1:Int)≤1∧(1:Int)≤4 by decide),Zr _ _ _ _ (show (0:Int)≤6∧(6:Int)≤14 by decide) (show (1:Int)≤2∧(2:Int)≤4 by decide),Zr _ _ _ _ (show (0:Int)≤6∧(6:Int)≤14 by decide) (show (1:Int)≤3∧(3:Int)≤4 by decide),Zr _ _ _ _ (show (0:Int)≤6∧(6:Int)≤14 by decide) (show (1:Int)≤4∧(4:Int)≤4 by decide),Zb,cond_eq_ite]
 (repeat' split)<;>(refine ⟨_,rfl,fun hb=>?_⟩)<;>first | (cases hb;done) | skip
 all_goals (constructor<;>simp_all [inB,hasV,usesB,gBd]<;>omega)
theorem ZZM (u:U) (c:C) (T X Y G N op nx el:Int):∃ b,ZG u c (7,T,X,Y,G,N,op,nx,el)=some b∧(b=true→actOK u c (7,T,X,Y,G,N,op,nx,el)):=by
 rw [Z36]
 simp only [Zn,Qq,Zf,Kd,Za,Zr _ _ _ _ (show (0:Int)≤7∧(7:Int)≤14 by decide) (show (1:Int)≤1∧(1:Int)≤4 by decide),Zr _ _ _ _ (show (0:Int)≤7∧(7:Int)≤14 by decide) (show (1:Int)≤2∧(2:Int)≤4 by decide),Zr _ _ _ _ (show (0:Int)≤7∧(7:Int)≤14 by decide) (show (1:Int)≤3∧(3:Int)≤4 by decide),Zr _ _ _ _ (show (0:Int)≤7∧(7:Int)≤14 by decide) (show (1:Int)≤4∧(4:Int)≤4 by decide),Zb,cond_eq_ite]
 (repeat' split)<;>(refine ⟨_,rfl,fun hb=>?_⟩)<;>first | (cases hb;done) | skip
 all_goals (constructor<;>simp_all [inB,hasV,usesB,gBd]<;>omega)
theorem ZZN (u:U) (c:C) (T X Y G N op nx el:Int):∃ b,ZG u c (8,T,X,Y,G,N,op,nx,el)=some b∧(b=true→actOK u c (8,T,X,Y,G,N,op,nx,el)):=by
 rw [Z37]
 simp only [Zn,Qq,Zf,Kd,Za,Zr _ _ _ _ (show (0:Int)≤8∧(8:Int)≤14 by decide) (show (1:Int)≤1∧(1:Int)≤4 by decide),Zr _ _ _ _ (show (0:Int)≤8∧(8:Int)≤14 by decide) (show (1:Int)≤2∧(2:Int)≤4 by decide),Zr _ _ _ _ (show (0:Int)≤8∧(8:Int)≤14 by decide) (show (1:Int)≤3∧(3:Int)≤4 by decide),Zr _ _ _ _ (show (0:Int)≤8∧(8:Int)≤14 by decide) (show (1:Int)≤4∧(4:Int)≤4 by decide),Zb,cond_eq_ite]
 (repeat' split)<;>(refine ⟨_,rfl,fun hb=>?_⟩)<;>first | (cases hb;done) | skip
 all_goals (constructor<;>simp_all [inB,hasV,usesB,gBd]<;>omega)
theorem ZZO (u:U) (c:C) (T X Y G N op nx el:Int):∃ b,ZG u c (9,T,X,Y,G,N,op,nx,el)=some b∧(b=true→actOK u c (9,T,X,Y,G,N,op,nx,el)):=by
 rw [Z38]
 simp only [Zn,Qq,Zf,Kd,Za,Zr _ _ _ _ (show (0:Int)≤9∧(9:Int)≤14 by decide) (show (1:Int)≤1∧(1:Int)≤4 by decide),Zr _ _ _ _ (show (0:Int)≤9∧(9:Int)≤14 by decide) (show (1:Int)≤2∧(2:Int)≤4 by decide),Zr _ _ _ _ (show (0:Int)≤9∧(9:Int)≤14 by decide) (show (1:Int)≤3∧(3:Int)≤4 by decide),Zr _ _ _ _ (show (0:Int)≤9∧(9:Int)≤14 by decide) (show (1:Int)≤4∧(4:Int)≤4 by decide),Zb,cond_eq_ite]
 (repeat' split)<;>(refine ⟨_,rfl,fun hb=>?_⟩)<;>first | (cases hb;done) | skip
 all_goals (constructor<;>simp_all [inB,hasV,usesB,gBd]<;>omega)
theorem ZYh (u:U) (c:C) (T X Y G N op nx el:Int):∃ b,ZG u c (10,T,X,Y,G,N,op,nx,el)=some b∧(b=true→actOK u c (10,T,X,Y,G,N,op,nx,el)):=by
 rw [Z2r]
 simp only [Zn,Qq,Zf,Kd,Za,Zr _ _ _ _ (show (0:Int)≤10∧(10:Int)≤14 by decide) (show (1:Int)≤1∧(1:Int)≤4 by decide),Zr _ _ _ _ (show (0:Int)≤10∧(10:Int)≤14 by decide) (show (1:Int)≤2∧(2:Int)≤4 by decide),Zr _ _ _ _ (show (0:Int)≤10∧(10:Int)≤14 by decide) (show (1:Int)≤3∧(3:Int)≤4 by decide),Zr _ _ _ _ (show (0:Int)≤10∧(10:Int)≤14 by decide) (show (1:Int)≤4∧(4:Int)≤4 by decide),Zb,cond_eq_ite]
 (repeat' split)<;>(refine ⟨_,rfl,fun hb=>?_⟩)<;>first | (cases hb;done) | skip
 all_goals (constructor<;>simp_all [inB,hasV,usesB,gBd]<;>omega)
theorem ZYi (u:U) (c:C) (T X Y G N op nx el:Int):∃ b,ZG u c (11,T,X,Y,G,N,op,nx,el)=some b∧(b=true→actOK u c (11,T,X,Y,G,N,op,nx,el)):=by
 rw [Z2s]
 simp only [Zn,Qq,Zf,Kd,Za,Zr _ _ _ _ (show (0:Int)≤11∧(11:Int)≤14 by decide) (show (1:Int)≤1∧(1:Int)≤4 by decide),Zr _ _ _ _ (show (0:Int)≤11∧(11:Int)≤14 by decide) (show (1:Int)≤2∧(2:Int)≤4 by decide),Zr _ _ _ _ (show (0:Int)≤11∧(11:Int)≤14 by decide) (show (1:Int)≤3∧(3:Int)≤4 by decide),Zr _ _ _ _ (show (0:Int)≤11∧(11:Int)≤14 by decide) (show (1:Int)≤4∧(4:Int)≤4 by decide),Zb,cond_eq_ite]
 (repeat' split)<;>(refine ⟨_,rfl,fun hb=>?_⟩)<;>first | (cases hb;done) | skip
 all_goals (constructor<;>simp_all [inB,hasV,usesB,gBd]<;>omega)
theorem ZYj (u:U) (c:C) (T X Y G N op nx el:Int):∃ b,ZG u c (12,T,X,Y,G,N,op,nx,el)=some b∧(b=true→actOK u c (12,T,X,Y,G,N,op,nx,el)):=by
 rw [Z2t]
 simp only [Zn,Qq,Zf,Kd,Za,Zr _ _ _ _ (show (0:Int)≤12∧(12:Int)≤14 by decide) (show (1:Int)≤1∧(1:Int)≤4 by decide),Zr _ _ _ _ (show (0:Int)≤12∧(12:Int)≤14 by decide) (show (1:Int)≤2∧(2:Int)≤4 by decide),Zr _ _ _ _ (show (0:Int)≤12∧(12:Int)≤14 by decide) (show (1:Int)≤3∧(3:Int)≤4 by decide),Zr _ _ _ _ (show (0:Int)≤12∧(12:Int)≤14 by decide) (show (1:Int)≤4∧(4:Int)≤4 by decide),Zb,cond_eq_ite]
 (repeat' split)<;>(refine ⟨_,rfl,fun hb=>?_⟩)<;>first | (cases hb;done) | skip
 all_goals (constructor<;>simp_all [inB,hasV,usesB,gBd]<;>omega)
theorem ZYk (u:U) (c:C) (T X Y G N op nx el:Int):∃ b,ZG u c (13,T,X,Y,G,N,op,nx,el)=some b∧(b=true→actOK u c (13,T,X,Y,G,N,op,nx,el)):=by
 rw [Z2u]
 simp only [Zn,Qq,Zf,Kd,Za,Zr _ _ _ _ (show (0:Int)≤13∧(13:Int)≤14 by decide) (show (1:Int)≤1∧(1:Int)≤4 by decide),Zr _ _ _ _ (show (0:Int)≤13∧(13:Int)≤14 by decide) (show (1:Int)≤2∧(2:Int)≤4 by decide),Zr _ _ _ _ (show (0:Int)≤13∧(13:Int)≤14 by decide) (show (1:Int)≤3∧(3:Int)≤4 by decide),Zr _ _ _ _ (show (0:Int)≤13∧(13:Int)≤14 by decide) (show (1:Int)≤4∧(4:Int)≤4 by decide),Zb,cond_eq_ite]
 (repeat' split)<;>(refine ⟨_,rfl,fun hb=>?_⟩)<;>first | (cases hb;done) | skip
 all_goals (constructor<;>simp_all [inB,hasV,usesB,gBd]<;>omega)
theorem ZYl (u:U) (c:C) (T X Y G N op nx el:Int):∃ b,ZG u c (14,T,X,Y,G,N,op,nx,el)=some b∧(b=true→actOK u c (14,T,X,Y,G,N,op,nx,el)):=by
 rw [Z2v]
 simp only [Zn,Qq,Zf,Kd,Za,Zr _ _ _ _ (show (0:Int)≤14∧(14:Int)≤14 by decide) (show (1:Int)≤1∧(1:Int)≤4 by decide),Zr _ _ _ _ (show (0:Int)≤14∧(14:Int)≤14 by decide) (show (1:Int)≤2∧(2:Int)≤4 by decide),Zr _ _ _ _ (show (0:Int)≤14∧(14:Int)≤14 by decide) (show (1:Int)≤3∧(3:Int)≤4 by decide),Zr _ _ _ _ (show (0:Int)≤14∧(14:Int)≤14 by decide) (show (1:Int)≤4∧(4:Int)≤4 by decide),Zb,cond_eq_ite]
 (repeat' split)<;>(refine ⟨_,rfl,fun hb=>?_⟩)<;>first | (cases hb;done) | skip
 all_goals (constructor<;>simp_all [inB,hasV,usesB,gBd]<;>omega)
theorem Z2w (u:U) (c:C) (a:A) (h:¬ (1≤a.1∧a.1≤14)):ZG u c a=some false:=by
 unfold ZG
 have f:∀ k:Int,1≤k→k≤14→(a.1==k)=false:=fun k h1 h2=>by
  rw [beq_eq_false_iff_ne];omega
 simp only [f 1 (by decide) (by decide),f 2 (by decide) (by decide),f 3 (by decide) (by decide),f 4 (by decide) (by decide),f 5 (by decide) (by decide),f 6 (by decide) (by decide),f 7 (by decide) (by decide),f 8 (by decide) (by decide),f 9 (by decide) (by decide),f 10 (by decide) (by decide),f 11 (by decide) (by decide),f 12 (by decide) (by decide),f 13 (by decide) (by decide),f 14 (by decide) (by decide),cond_false]
theorem ZOP (u:U) (c:C) (a:A):∃ b,ZG u c a=some b∧(b=true→actOK u c a):=by
 by_cases h:1≤a.1∧a.1≤14
 ·obtain ⟨k,T,X,Y,G,N,op,nx,el⟩:=a
  have h1:k=1∨k=2∨k=3∨k=4∨k=5∨k=6∨k=7∨k=8∨k=9∨k=10∨k=11∨k=12∨k=13∨k=14:=by simp only at h;omega
  rcases h1 with rfl | rfl | rfl | rfl | rfl | rfl | rfl | rfl | rfl | rfl | rfl | rfl | rfl | rfl
  ·exact ZZG ..
  ·exact ZZH ..
  ·exact ZZI ..
  ·exact ZZJ ..
  ·exact ZZK ..
  ·exact ZZL ..
  ·exact ZZM ..
  ·exact ZZN ..
  ·exact ZZO ..
  ·exact ZYh ..
  ·exact ZYi ..
  ·exact ZYj ..
  ·exact ZYk ..
  ·exact ZYl ..
 ·exact ⟨false,Z2w u c a h,fun k=>nomatch k⟩
theorem ZbT {α Y:Type} {f:Nat→Unit→α→Option (Unit⊕Y)} {fin:Unit→Option Y} {p:Nat→α→Bool} {o:Y}:∀ (l:List α) (i:Nat),(∀ j d,l[j]? = some d→f (i+j) () d=bif p (i+j) d then some (.inl ()) else some (.inr o))→
  Zl f fin i l ()=bif allIx p i l then fin () else some o
 | [],i,_=>rfl
 | d::r,i,h=>by
  have k:=ZbT (fin:=fin) r (i+1) fun j d hd=>by
   have:=h (j+1) d hd
   rwa [show i+(j+1)=i+1+j by omega] at this
  have h0:=h 0 d rfl
  rw [Nat.add_zero] at h0
  simp only [Zl,allIx,h0]
  cases p i d
  ·rfl
  ·exact k
theorem ZvJ {α:Type} {p:Nat→α→Bool}:∀ {l:List α} {i:Nat},allIx p i l=true↔∀ j d,l[j]? = some d→p (i+j) d=true
 | [],i=>by simp [allIx]
 | d::r,i=>by
  rw [allIx,Bool.and_eq_true,ZvJ]
  constructor
  ·rintro ⟨h,k⟩ j e hj
   cases j with
   | zero=>cases hj;exact h
   | succ j=>have:=k j e hj;rwa [show i+1+j=i+(j+1) by omega] at this
  ·intro k
   refine ⟨by have:=k 0 d rfl;rwa [Nat.add_zero] at this,fun j e hj=>?_⟩
   have:=k (j+1) e hj
   rwa [show i+(j+1)=i+1+j by omega] at this
theorem ZQ8 {α:Type} {p:α→Bool} {l:List α} (h:allIx (fun _ d=>p d) 0 l=true):∀ d∈l,p d=true:=by
 rw [ZvI] at h
 exact List.all_eq_true.1 h
def actB (u:U) (c:C) (a:A):Bool:=(ZG u c a).getD false
theorem ZWh (u:U) (c:C) (a:A):ZG u c a=some (actB u c a):=by
 obtain ⟨b,h,_⟩:=ZOP u c a
 unfold actB
 rw [h];rfl
theorem Z0Y {u:U} {c:C} {a:A} (h:actB u c a=true):actOK u c a:=by
 obtain ⟨b,h1,h2⟩:=ZOP u c a
 rw [ZWh] at h1
 cases h1
 exact h2 h
def codeB (u:U) (c:C):Bool:=inB c.1 41 && !decide ((c.2.length:Int)<1) && !decide ((c.2.length:Int)>60)&&(c.2[c.2.length - 1]?).elim false (fun a=>a.1==14)&&allIx (fun _ a=>actB u c a) 0 c.2
theorem l6 (s5:Int) (u:U) (c:C) (hl:c.2.length<9223372036854775807):ZcW (s5,(c.2.length:Int),0,u.1,u.2.1,u.2.2.1,u.2.2.2,c.1,c.2) =
  bif allIx (fun _ a=>actB u c a) 0 c.2 then some (.inl (s5,u.1,u.2.1,u.2.2.1,u.2.2.2)) else some (.inr (false,s5,u.1,u.2.1,u.2.2.1,u.2.2.2)):=by
 rw [ZLR s5 u.1 u.2.1 u.2.2.1 u.2.2.2 c.1 c.2 () hl]
 unfold Zpq
 rw [ZbT (p:=fun _ a=>actB u c a) (o:=.inr (false,s5,u.1,u.2.1,u.2.2.1,u.2.2.2)) c.2 0 fun j d hd=>?_]
 ·rfl
 ·unfold Zip Zx4
  simp only [ZWh,Zb]
  cases actB u c d<;>rfl
theorem l4 (u:U) (hl:∀ c∈u.2.2.2,c.2.length<9223372036854775807) (hn:u.2.2.2.length<9223372036854775807):Zfo (0,u.1,u.2.1,u.2.2.1,u.2.2.2)=bif allIx (fun _ c=>codeB u c) 0 u.2.2.2 then some (.inl ()) else some (.inr false):=by
 unfold Zfo
 refine (Zk u.2.2.2 (fun i (_:Unit)=>(((i:Int),u.1,u.2.1,u.2.2.1,u.2.2.2):Int×List Int×List Int×Int×List C)) (fun i _ c=>bif codeB u c then some (.inl ()) else some (.inr (.inr false))) (fun _=>some (.inl ())) ?_ ?_ () (by unfold Zj;omega)).trans ?_
 ·intro i s d hi hd
  have hm:=hl d (List.mem_of_getElem? hd)
  have e1:decide ((i:Int)<(u.2.2.2.length:Int))=true:=decide_eq_true (by omega)
  have e2:decide (0≤(i:Int))=true:=decide_eq_true (by omega)
  have e3:Int.toNat (i:Int)=i:=Int.toNat_natCast i
  have e4:=Zm hi (Nat.le_of_lt hn)
  show Zet (i:Int) u.1 u.2.1 u.2.2.1 u.2.2.2=upd _ (bif codeB u d then some (.inl ()) else some (.inr (.inr false)))
  unfold Zet Zf
  simp only [e1,e2,e3,hd,cond_true,Zb,Kd]
  have q:=l6 (i:Int) u d hm
  unfold codeB
  cases inB d.1 41
  ·rfl
  by_cases h1:(d.2.length:Int)<1
  ·rw [decide_eq_true h1];rfl
  by_cases h2:(d.2.length:Int)>60
  ·rw [decide_eq_false h1,decide_eq_true h2];rfl
  rw [decide_eq_false h1,decide_eq_false h2]
  have e5:IntKind.i64.wrap ((d.2.length:Int) - 1)=((d.2.length - 1:Nat):Int):=by rw [Zou (by omega) (by omega)];omega
  rw [e5]
  have e6:decide (0≤((d.2.length - 1:Nat):Int))=true:=decide_eq_true (by omega)
  rw [e6,Int.toNat_natCast]
  obtain ⟨a,ha⟩:∃ a,d.2[d.2.length - 1]? = some a:=⟨d.2[d.2.length - 1]'(by omega),List.getElem?_eq_getElem _⟩
  simp only [cond_true,cond_false,Bool.not_true,Bool.not_false,Bool.true_and,ha,Zb,Option.elim_some]
  cases h3:a.1==14
  ·rw [show (a.1 !=14)=true by simp [bne,h3]];rfl
  ·rw [show (a.1 !=14)=false by simp [bne,h3]]
   simp only [cond_false,Bool.true_and]
   have q2:ZcW ((i:Int),(d.2.length:Int),0,u.1,u.2.1,u.2.2.1,u.2.2.2,d)=_:=q
   rw [q2]
   cases allIx (fun _ a=>actB u d a) 0 d.2
   ·rfl
   ·simp only [cond_true,Zb,Sum.elim_inl,e4];rfl
 ·intro s
  show Zet (u.2.2.2.length:Int) u.1 u.2.1 u.2.2.1 u.2.2.2=_
  unfold Zet
  rw [show decide ((u.2.2.2.length:Int)<(u.2.2.2.length:Int))=false from decide_eq_false (by omega)]
  rfl
 ·rw [ZbT (p:=fun _ c=>codeB u c) (o:=.inr false) u.2.2.2 0 fun j d hd=>rfl]
theorem l0 (u:U) (hn:u.1.length<9223372036854775807):Zfm (0,u)=bif u.1.all fitB then some (.inl u) else some (.inr (false,u)):=by
 have:=ZLP u.2.1 u.2.2.1 u.2.2.2 u.1 () hn
 refine this.trans ?_
 unfold Zpo
 rw [ZbT (p:=fun _ a=>fitB a) (o:=.inr (false,u.1,u.2.1,u.2.2.1,u.2.2.2)) u.1 0 fun j d hd=>?_,ZvI]
 ·rfl
 ·unfold Zin Zn
  simp only [Qq,Zb]
  cases fitB d<;>rfl
theorem l2 (u:U) (hn:u.2.1.length<9223372036854775807):Zfn (0,u)=bif u.2.1.all (fun n=>!decide (n<1) && !decide (n>16)) then some (.inl u) else some (.inr (false,u)):=by
 have:=ZLQ u.1 u.2.2.1 u.2.2.2 u.2.1 () hn
 refine this.trans ?_
 unfold Zpp
 rw [ZbT (p:=fun _ n=>!decide (n<1) && !decide (n>16)) (o:=.inr (false,u.1,u.2.1,u.2.2.1,u.2.2.2)) u.2.1 0 fun j d hd=>?_,ZvI]
 ·rfl
 ·unfold Zio
  cases decide (d<1)
  ·cases decide (d>16)<;>rfl
  ·rfl
structure codeOK (u:U) (c:C):Prop where
 v:0≤c.1∧c.1≤40
 n:1≤c.2.length∧c.2.length≤60
 e:∃ a,c.2[c.2.length - 1]? = some a∧a.1=14
 a:∀ a∈c.2,actOK u c a
structure unitOK (u:U):Prop where
 g:u.1.length≤6
 a:u.2.1.length≤3
 m:0≤u.2.2.1∧u.2.2.1≤6
 t:1≤u.2.2.2.length∧u.2.2.2.length≤4
 gs:∀ n∈u.1,fitB n=true
 ars:∀ n∈u.2.1,1≤n∧n≤16
 ts:∀ c∈u.2.2.2,codeOK u c
theorem ZZU {u:U} {c:C} (h:codeB u c=true):codeOK u c:=by
 unfold codeB at h
 simp only [Bool.and_eq_true,Bool.not_eq_true',decide_eq_false_iff_not,inB,decide_eq_true_eq] at h
 obtain ⟨⟨⟨⟨h1,h2⟩,h3⟩,h4⟩,h5⟩:=h
 refine ⟨by omega,by omega,?_,fun a ha=>Z0Y (ZQ8 h5 a ha)⟩
 cases q:c.2[c.2.length - 1]? with
 | none=>rw [q] at h4;cases h4
 | some a=>rw [q] at h4;exact ⟨a,rfl,by simpa using h4⟩
def sizeU (u:U):Prop:=u.1.length<9223372036854775807∧u.2.1.length<9223372036854775807∧u.2.2.2.length<9223372036854775807∧∀ c∈u.2.2.2,c.2.length<9223372036854775807
theorem ZYT (u:U) (hs:sizeU u):∃ b,Zv3 u=some b∧(b=true→unitOK u):=by
 obtain ⟨s1,s2,s3,s4⟩:=hs
 unfold Zv3 Zf
 simp only [Kd,Zb,l0 u s1]
 by_cases h1:(u.1.length:Int)>6
 ·rw [decide_eq_true h1];exact ⟨_,rfl,fun k=>nomatch k⟩
 by_cases h2:(u.2.1.length:Int)>3
 ·rw [decide_eq_false h1,decide_eq_true h2];exact ⟨_,rfl,fun k=>nomatch k⟩
 cases h3:inB u.2.2.1 7
 ·rw [decide_eq_false h1,decide_eq_false h2];exact ⟨_,rfl,fun k=>nomatch k⟩
 by_cases h4:(u.2.2.2.length:Int)<1
 ·rw [decide_eq_false h1,decide_eq_false h2,decide_eq_true h4];exact ⟨_,rfl,fun k=>nomatch k⟩
 by_cases h5:(u.2.2.2.length:Int)>4
 ·rw [decide_eq_false h1,decide_eq_false h2,decide_eq_false h4,decide_eq_true h5];exact ⟨_,rfl,fun k=>nomatch k⟩
 rw [decide_eq_false h1,decide_eq_false h2,decide_eq_false h4,decide_eq_false h5]
 simp only [cond_true,cond_false,Bool.not_true,Bool.not_false]
 cases h6:u.1.all fitB
 ·exact ⟨_,rfl,fun k=>nomatch k⟩
 simp only [cond_true,Zb,Sum.elim_inl,l2 u s2]
 cases h7:u.2.1.all fun n=>!decide (n<1) && !decide (n>16)
 ·exact ⟨_,rfl,fun k=>nomatch k⟩
 simp only [cond_true,Zb,Sum.elim_inl]
 have q:=l4 u s4 s3
 have q2:Zfo (0,u)=_:=q
 rw [q2]
 cases h8:allIx (fun _ c=>codeB u c) 0 u.2.2.2
 ·exact ⟨_,rfl,fun k=>nomatch k⟩
 refine ⟨_,rfl,fun _=>?_⟩
 simp only [inB,Bool.and_eq_true,decide_eq_true_eq] at h3
 refine ⟨by omega,by omega,by omega,by omega,List.all_eq_true.1 h6,fun n hn=>?_,fun c hc=>ZZU (ZQ8 h8 c hc)⟩
 have:=List.all_eq_true.1 h7 n hn
 simp only [Bool.and_eq_true,Bool.not_eq_true',decide_eq_false_iff_not] at this
 omega
section
open Go.Proofs Go.Proofs.YtbdcblpjemmipaaGreat
def ZHo:List Sh:=[.dat tU,.dat (.int .i64)]
def Zpe:Nat→List Nat:=fun c=>bif c.beq 0 then [1,2,5,6] else [2,4]
def Zto:List Con:=[⟨64,ZMt,ZWb⟩]
def VK:StS:=⟨[(1,.int .i64),(2,.ptr 0 0),(5,.int .i64),(6,.int .i64)],[(0,.box [.sl (.int .i64),.sl (.int .i64),.int .i64,.sl tC])],1⟩
def Wk:StS:=⟨[(2,.ptr 0 0),(4,.undef)],[(0,.box [.sl (.int .i64),.sl (.int .i64),.int .i64,.sl tC])],1⟩
def Wl:StS:=⟨[(2,.ptr 0 0),(4,.bool)],[(0,.box [.sl (.int .i64),.sl (.int .i64),.int .i64,.sl tC])],1⟩
abbrev Vl:=(Int×Int×Int×(List Int)×(List Int)×Int×(List C))
def ZtU:StD VK→Vl:=fun ((a,_,b,c,_),((d,e,f,g,_),_))=>(a,b,c,d,e,f,g)
def Zm0:Vl→StD VK:=fun (a,b,c,d,e,f,g)=>((a,(),b,c,()),((d,e,f,g,()),()))
abbrev Kw:=((List Int)×(List Int)×Int×(List C))
def ZDT:StD Wk→Kw:=fun ((_,_,_),((a,b,c,d,_),_))=>(a,b,c,d)
def ZjI:Kw→StD Wk:=fun (a,b,c,d)=>(((),(),()),((a,b,c,d,()),()))
abbrev Kx:=(Bool×(List Int)×(List Int)×Int×(List C))
def ZDU:StD Wl→Kx:=fun ((_,a,_),((b,c,d,e,_),_))=>(a,b,c,d,e)
def ZjJ:Kx→StD Wl:=fun (a,b,c,d,e)=>(((),a,()),((b,c,d,e,()),()))
def ZcN (s1 s5 s6:Int) (b0 b0_1:List Int) (b0_2:Int) (b0_3:List C):Option ((Int×Int×Int×(List Int)×(List Int)×Int×(List C))⊕(((List Int)×(List Int)×Int×(List C))⊕(Bool×(List Int)×(List Int)×Int×(List C)))):=
 bif decide (s6<(↑b0_3.length:Int)) then
 bif decide (0≤s6) then
 optC b0_3[s6.toNat]? none fun d9=>
 bif decide (IntKind.i64.wrap (s5+(↑(List.length d9.2):Int))>s1) then some (Sum.inr (Sum.inr (true,b0,b0_1,b0_2,b0_3)))
 else some (Sum.inl (s1,IntKind.i64.wrap (s5+(↑(List.length d9.2):Int)),IntKind.i64.wrap (s6+1),b0,b0_1,b0_2,b0_3))
 else none
 else some (Sum.inr (Sum.inl (b0,b0_1,b0_2,b0_3)))
def ZmH:Vl→Option (Vl⊕(Kw⊕Kx)):=fun (a,b,c,d,e,f,g)=>ZcN a b c d e f g
theorem ZIU (x:Vl):rdX (cxU Zto [] 40 1048576) keeps 8 ⟨48,45,keeps 48,0⟩ 0 (bodyX 48 0) 0 Zpe (sT VK (Zm0 x)) (sH VK (Zm0 x)) (rdO (fun T h=>(rdS VK T h).map ZtU) (getOr (getE 2 Wk ZDT) (getE 1 Wl ZDU)))=ZmH x:=by kernel_rfl
def Zdr (x:Vl):Option (Kw⊕Kx):=iterO ZmH Zj x
def ZzX:Nat→Tm→Prog (Nat×Tm):=(varP 0 (fun T h=>(rdS VK T h).map ZtU) Zdr (fun y=>.alt y (altE 2 Wk ZjI) (altE 1 Wl ZjJ)) (fun _ _=>.fail))
def Zxq:Lpc:=⟨48,0,45,(fun base T=>.norm base (Zpe 0) T (ZzX base)),by kernel_rfl,by kernel_rfl,(loopU Zto [] 40 1048576 8 (keep:=Zpe) (q:=ZzX) (by kernel_rfl) (Zp (s:=VK) (un:=Zm0) (by rfl) (fun _=>rfl) (ZR (Zi (s:=Wk) (un:=ZjI) (by rfl) (fun _=>rfl)) (Zi (s:=Wl) (un:=ZjJ) (by rfl) (fun _=>rfl))) (step:=ZmH) ZIU (fun _ _ e=>⟨_,e⟩) (ZQ (Zh 2 Wk ZjI) (Zh 1 Wl ZjJ)) (ZA.fail _ _)))⟩
def Zvi (a0:U) (a1:Int):Option Bool:=
 bif decide ((↑(List.length a0.2.2.2):Int)>4) then some true
 else
 bif decide ((↑(List.length a0.1):Int)>10) then some true
 else
 bif decide ((↑(List.length a0.2.1):Int)>10) then some true
 else
 optC (Zdr (a1,0,0,a0)) none fun d4=>
 Sum.elim (fun e5=>optC (ZJl (e5,())) none fun d6=>some !d6) (fun e5=>some e5.1) d4
theorem ZSv (a0:U) (a1:Int):evGX (cxU Zto [Zxq] 40 1048576) keeps 8 48 ZHo (.dat .bool) ((a0,a1,()):(U×(Int×Unit)))=Zvi a0 a1:=by kernel_rfl
def ZBY (x:U×(Int×Unit)):Option Bool:=Zvi x.1 x.2.1
def ZHM:List AV→Prog AV:=conP true ZHo (.dat .bool) ZBY
theorem ZSW:Zd Tryz.prog 48 ZHM:=Zc (calU Zto [Zxq] 40 1048576 8 48) true (by rfl) (by rfl) (fun x r e=>(Zg _ _ _ _ _ _ _).trans ((ZSv x.1 x.2.1).trans e)) (.inl rfl)
end
def W5 (s1:Int) (b0 b0_1:List Int) (b0_2:Int) (b0_3:List C) (i:Nat) (s5:Int) (d:C):Option (Int⊕(Kw⊕Kx)):=
 bif decide (IntKind.i64.wrap (s5+(↑(List.length d.2):Int))>s1) then
  some (Sum.inr (Sum.inr (true,b0,b0_1,b0_2,b0_3)))
 else some (Sum.inl (IntKind.i64.wrap (s5+(↑(List.length d.2):Int))))
def ZfU (s1:Int) (b0 b0_1:List Int) (b0_2:Int) (b0_3:List C) (s5:Int):Option (Kw⊕Kx):=
 some (Sum.inl (b0,b0_1,b0_2,b0_3))
abbrev ZI9 (s1:Int) (b0 b0_1:List Int) (b0_2:Int) (b0_3:List C) (i:Nat) (s:Int):Vl:=(s1,s,(i:Int),b0,b0_1,b0_2,b0_3)
def Zmu (s1:Int) (b0 b0_1:List Int) (b0_2:Int) (b0_3:List C) (s:Int):Option (Kw⊕Kx):=Zl (fun i s d=>W5 s1 b0 b0_1 b0_2 b0_3 i s d) (fun s=>ZfU s1 b0 b0_1 b0_2 b0_3 s) 0 b0_3 s
theorem ZIH (s1:Int) (b0 b0_1:List Int) (b0_2:Int) (b0_3:List C) (s:Int) (hl:b0_3.length<9223372036854775807):Zdr (s1,s,0,b0,b0_1,b0_2,b0_3)=Zmu s1 b0 b0_1 b0_2 b0_3 s:=by
 unfold Zdr Zmu
 refine Zk b0_3 (ZI9 s1 b0 b0_1 b0_2 b0_3) _ _ ?_ ?_ s (by unfold Zj;omega)
 ·intro i s d hi hd
  have e1:decide ((i:Int)<(b0_3.length:Int))=true:=decide_eq_true (by omega)
  have e2:decide (0≤(i:Int))=true:=decide_eq_true (by omega)
  have e3:Int.toNat (i:Int)=i:=Int.toNat_natCast i
  have e4:=Zm hi (Nat.le_of_lt hl)
  show ZcN (s1) (s) ((i:Int)) (b0) (b0_1) (b0_2) (b0_3)=upd _ (W5 s1 b0 b0_1 b0_2 b0_3 i s d)
  unfold ZcN W5
  simp only [e1,e2,e3,e4,hd,cond_true,cond_false,Zb,Zv,Zy,Zw,ZB,ZC,Zx]
 ·intro s
  have e1:decide ((b0_3.length:Int)<(b0_3.length:Int))=false:=decide_eq_false (by omega)
  show ZcN (s1) (s) ((b0_3.length:Int)) (b0) (b0_1) (b0_2) (b0_3)=_
  unfold ZcN ZfU
  rw [e1]
  rfl
section
open Go.Proofs Go.Proofs.YtbdcblpjemmipaaGreat
def ZHt:List Sh:=[.dat tEn]
def ZK1:List Con:=[]
def Zvk (a0:En):Option Int:=
 bif a0.2.1 then some 1 else some 0
theorem ZSA (a0:En):evGX (cxU ZK1 [] 40 1048576) keeps 8 96 ZHt (.dat (.int .i64)) ((a0,()):(En×Unit))=Zvk a0:=by kernel_rfl
def Zu6 (x:En×Unit):Option Int:=Zvk x.1
def ZHN:List AV→Prog AV:=conP true ZHt (.dat (.int .i64)) Zu6
theorem ZSX:Zd Tryz.prog 96 ZHN:=Zc (calU ZK1 [] 40 1048576 8 96) true (by rfl) (by rfl) (fun x r e=>(Zg _ _ _ _ _ _ _).trans ((ZSA x.1).trans e)) (.inl rfl)
end
section
open Go.Proofs Go.Proofs.YtbdcblpjemmipaaGreat
def ZA9:List Sh:=[.dat tEn,.dat tEn]
def Zmm:Nat→List Nat:=fun c=>bif c.beq 0 then [5,6,7] else [4]
def ZoO:List Con:=[⟨96,ZHN,ZSX⟩]
def K1:StS:=⟨[(5,.row 0),(6,.row 1),(7,.int .i64)],[(0,.row (.int .i64)),(1,.row (.int .i64))],2⟩
def Yt:StS:=⟨[(4,.undef)],[],0⟩
def Yu:StS:=⟨[(4,.int .i64)],[],0⟩
abbrev V4:=(Int×(List Int)×(List Int))
def Zq6:StD K1→V4:=fun ((_,_,a,_),(b,c,_))=>(a,b,c)
def ZjS:V4→StD K1:=fun (a,b,c)=>(((),(),a,()),(b,c,()))
abbrev Zda:=Unit
def ZAF (d:StD Yt):Zda:=()
def ZgA (x:Zda):StD Yt:=(((),()),())
abbrev Zdb:=Int
def ZAG (d:StD Yu):Zdb:=(d.1.1)
def ZgB (x:Zdb):StD Yu:=((x,()),())
def Zrt (s7:Int) (b0 b1:List Int):Option ((Int×(List Int)×(List Int))⊕(Unit⊕Int)):=
 bif decide (s7<4) then
 bif decide (0≤s7) then
 optC b0[s7.toNat]? none fun d5=>
 optC b0[s7.toNat]? none fun d6=>
 bif decide (0≤s7) then
 optC b1[s7.toNat]? none fun d7=>
 optC b1[s7.toNat]? none fun d8=>
 bif decide (d6<d8) then some (Sum.inr (Sum.inr (-1)))
 else
 bif decide (0≤s7) then
 optC b0[s7.toNat]? none fun d9=>
 optC b0[s7.toNat]? none fun d10=>
 bif decide (0≤s7) then
 optC b1[s7.toNat]? none fun d11=>
 optC b1[s7.toNat]? none fun d12=>
 bif decide (d10>d12) then some (Sum.inr (Sum.inr 1)) else some (Sum.inl (IntKind.i64.wrap (s7+1),b0,b1))
 else none
 else none
 else none
 else none
 else some (Sum.inr (Sum.inl PUnit.unit))
def J1:V4→Option (V4⊕(Zda⊕Zdb)):=fun (a,b,c)=>Zrt a b c
theorem ZEH (x:V4):rdX (cxU ZoO [] 40 1048576) keeps 8 ⟨61,48,keeps 61,0⟩ 0 (bodyX 61 0) 0 Zmm (sT K1 (ZjS x)) (sH K1 (ZjS x)) (rdO (fun T h=>(rdS K1 T h).map Zq6) (getOr (getE 2 Yt ZAF) (getE 1 Yu ZAG)))=J1 x:=by kernel_rfl
def ZeD (x:V4):Option (Zda⊕Zdb):=iterO J1 Zj x
def Zwy:Nat→Tm→Prog (Nat×Tm):=(varP 0 (fun T h=>(rdS K1 T h).map Zq6) ZeD (fun y=>.alt y (altE 2 Yt ZgA) (altE 1 Yu ZgB)) (fun _ _=>.fail))
def Zuf:Lpc:=⟨61,0,48,(fun base T=>.norm base (Zmm 0) T (Zwy base)),by kernel_rfl,by kernel_rfl,(loopU ZoO [] 40 1048576 8 (keep:=Zmm) (q:=Zwy) (by kernel_rfl) (Zp (s:=K1) (un:=ZjS) (by rfl) (fun _=>rfl) (ZR (Zi (s:=Yt) (un:=ZgA) (by rfl) (fun _=>rfl)) (Zi (s:=Yu) (un:=ZgB) (by rfl) (fun _=>rfl))) (step:=J1) ZEH (fun _ _ e=>⟨_,e⟩) (ZQ (Zh 2 Yt ZgA) (Zh 1 Yu ZgB)) (ZA.fail _ _)))⟩
def Zqm (a0 a1:En):Option Int:=
 optC (Zu6 (a0,())) none fun d4=>
 optC (Zu6 (a1,())) none fun d5=>
 optC (ZeD (0,[a0.1,d4,a0.2.2.1,a0.2.2.2.1],[a1.1,d5,a1.2.2.1,a1.2.2.2.1])) none fun d6=>
 Sum.elim (fun e7=>some 0) (fun e7=>some e7) d6
theorem ZO7 (a0 a1:En):evGX (cxU ZoO [Zuf] 40 1048576) keeps 8 61 ZA9 (.dat (.int .i64)) ((a0,a1,()):(En×(En×Unit)))=Zqm a0 a1:=by kernel_rfl
def K8 (x:En×(En×Unit)):Option Int:=Zqm x.1 x.2.1
def ZrR:List AV→Prog AV:=conP true ZA9 (.dat (.int .i64)) K8
theorem ZBH:Zd Tryz.prog 61 ZrR:=Zc (calU ZoO [Zuf] 40 1048576 8 61) true (by rfl) (by rfl) (fun x r e=>(Zg _ _ _ _ _ _ _).trans ((ZO7 x.1 x.2.1).trans e)) (.inl rfl)
end
section
open Go.Proofs Go.Proofs.YtbdcblpjemmipaaGreat
def ZJu:List Sh:=[.dat (.sl tEn)]
def ZqK:Nat→List Nat:=fun c=>bif c.beq 0 then [0,3] else [2]
def ZvC:List Con:=[⟨60,ZB3,ZMQ⟩,⟨47,Qr,QV⟩,⟨61,ZrR,ZBH⟩]
def WH:StS:=⟨[(0,.sl tEn),(3,.int .i64)],[],0⟩
def Zag:StS:=⟨[(2,.undef)],[],0⟩
def Zah:StS:=⟨[(2,.bool)],[],0⟩
abbrev WE:=((List En)×Int)
def ZvW (d:StD WH):WE:=(d.1.1,d.1.2.1)
def Zos (x:WE):StD WH:=((x.1,x.2,()),())
abbrev YK:=Unit
def ZFy (d:StD Zag):YK:=()
def Zls (x:YK):StD Zag:=(((),()),())
abbrev YL:=Bool
def ZFz (d:StD Zah):YL:=(d.1.1)
def Zlt (x:YL):StD Zah:=((x,()),())
def Zdx (s0:List En) (s3:Int):Option (((List En)×Int)⊕(Unit⊕Bool)):=
 bif decide (s3<(↑s0.length:Int)) then
 bif decide (0≤s3) then
 optC s0[s3.toNat]? none fun d4=>
 optC (ZnF (d4.2.2.2.2,())) none fun d5=>
 bif !d5 then some (Sum.inr (Sum.inr false))
 else
 bif decide (0≤s3) then
 optC s0[s3.toNat]? none fun d6=>
 bif decide (d6.2.2.2.2.1>d6.2.2.2.2.2) then some (Sum.inr (Sum.inr false))
 else
 bif decide (0≤s3) then
 optC s0[s3.toNat]? none fun d7=>
 bif decide (d7.2.2.2.1<0) then some (Sum.inr (Sum.inr false))
 else
 bif decide (0≤s3) then
 optC s0[s3.toNat]? none fun d8=>
 bif decide (d8.2.2.2.1≥2147483648) then some (Sum.inr (Sum.inr false))
 else
 bif decide (s3>0) then
 bif decide (0≤IntKind.i64.wrap (s3 - 1)) then
 optC s0[(IntKind.i64.wrap (s3 - 1)).toNat]? none fun d9=>
 bif decide (0≤s3) then
 optC s0[s3.toNat]? none fun d10=>
 optC (K8 (d9,d10,())) none fun d11=>
 bif decide (d11≥0) then some (Sum.inr (Sum.inr false)) else some (Sum.inl (s0,IntKind.i64.wrap (s3+1)))
 else none
 else none
 else some (Sum.inl (s0,IntKind.i64.wrap (s3+1)))
 else none
 else none
 else none
 else none
 else some (Sum.inr (Sum.inl PUnit.unit))
def Zoo (x:WE):Option (WE⊕(YK⊕YL)):=Zdx x.1 x.2
theorem ZKG (x:WE):rdX (cxU ZvC [] 40 1048576) keeps 8 ⟨30,58,keeps 30,0⟩ 0 (bodyX 30 0) 0 ZqK (sT WH (Zos x)) (sH WH (Zos x)) (rdO (fun T h=>(rdS WH T h).map ZvW) (getOr (getE 2 Zag ZFy) (getE 1 Zah ZFz)))=Zoo x:=by kernel_rfl
def Zik (x:WE):Option (YK⊕YL):=iterO Zoo Zj x
def ZBB:Nat→Tm→Prog (Nat×Tm):=(varP 0 (fun T h=>(rdS WH T h).map ZvW) Zik (fun y=>.alt y (altE 2 Zag Zls) (altE 1 Zah Zlt)) (fun _ _=>.fail))
def ZzG:Lpc:=⟨30,0,58,(fun base T=>.norm base (ZqK 0) T (ZBB base)),by kernel_rfl,by kernel_rfl,(loopU ZvC [] 40 1048576 8 (keep:=ZqK) (q:=ZBB) (by kernel_rfl) (Zp (s:=WH) (un:=Zos) (by rfl) (fun _=>rfl) (ZR (Zi (s:=Zag) (un:=Zls) (by rfl) (fun _=>rfl)) (Zi (s:=Zah) (un:=Zlt) (by rfl) (fun _=>rfl))) (step:=Zoo) ZKG (fun _ _ e=>⟨_,e⟩) (ZQ (Zh 2 Zag Zls) (Zh 1 Zah Zlt)) (ZA.fail _ _)))⟩
def Zym (a0:List En):Option Bool:=
 optC (Zik (a0,0)) none fun d3=>Sum.elim (fun e4=>some true) (fun e4=>some e4) d3
theorem ZUC (a0:List En):evGX (cxU ZvC [ZzG] 40 1048576) keeps 8 30 ZJu (.dat .bool) ((a0,()):((List En)×Unit))=Zym a0:=by kernel_rfl
def ZrI (x:(List En)×Unit):Option Bool:=Zym x.1
def Zzn:List AV→Prog AV:=conP false ZJu (.dat .bool) ZrI
theorem ZKP:Zd Tryz.prog 30 Zzn:=Zc (calU ZvC [ZzG] 40 1048576 8 30) false (by rfl) (by rfl) (fun x r e=>(Zg _ _ _ _ _ _ _).trans ((ZUC x.1).trans e)) (.inr fun _=>rfl)
end
def Zg1  (s0:(List En)) (i:Nat)  (d:En):Option (Unit⊕(YK⊕YL)):=
 optC (ZnF (d.2.2.2.2,())) (none) fun d5=>
  bif !d5 then
  some (Sum.inr (Sum.inr false))
 else bif decide (d.2.2.2.2.1>d.2.2.2.2.2) then
  some (Sum.inr (Sum.inr false))
 else bif decide (d.2.2.2.1<0) then
  some (Sum.inr (Sum.inr false))
 else bif decide (d.2.2.2.1≥2147483648) then
  some (Sum.inr (Sum.inr false))
 else bif decide ((i:Int)>0) then
  bif decide (0≤IntKind.i64.wrap ((i:Int) - 1)) then
  optC s0[(IntKind.i64.wrap ((i:Int) - 1)).toNat]? (none) fun d9=>
  optC (K8 (d9,d,())) (none) fun d11=>
  bif decide (d11≥0) then
  some (Sum.inr (Sum.inr false))
 else some (Sum.inl ())
 else none
 else some (Sum.inl ())
def ZvY  (s0:(List En)):Option (YK⊕YL):=
 some (Sum.inl PUnit.unit)
abbrev ZKK  (s0:(List En)) (i:Nat) (s:Unit):WE:=(s0,(i:Int))
def Zol  (s0:(List En)) (s:Unit):Option (YK⊕YL):=Zl (fun i s d=>Zg1  s0 i  d) (fun s=>ZvY  s0 ) 0 s0 s
theorem ZKD  (s0:(List En)) (s:Unit) (hl:s0.length<9223372036854775807):Zik (s0,0)=Zol  s0 s:=by
 unfold Zik Zol
 refine Zk s0 (ZKK  s0) _ _ ?_ ?_ s (by unfold Zj;omega)
 ·intro i s d hi hd
  have e1:decide ((i:Int)<(s0.length:Int))=true:=decide_eq_true (by omega)
  have e2:decide (0≤(i:Int))=true:=decide_eq_true (by omega)
  have e3:Int.toNat (i:Int)=i:=Int.toNat_natCast i
  have e4:=Zm hi (Nat.le_of_lt hl)
  show Zdx (s0) ((i:Int))=upd _ (Zg1  s0 i  d)
  unfold Zdx Zg1
  simp only [e1,e2,e3,e4,hd,cond_true,cond_false,Zb,Zv,Zy,Zw,ZB,ZC,Zx]
 ·intro s
  have e1:decide ((s0.length:Int)<(s0.length:Int))=false:=decide_eq_false (by omega)
  show Zdx (s0) ((s0.length:Int))=_
  unfold Zdx ZvY
  rw [e1]
  rfl
section
open Go.Proofs Go.Proofs.YtbdcblpjemmipaaGreat
def ZA3:List Sh:=[.dat tU,.dat (.int .i64),.dat (.sl tEn)]
def ZE9:List Con:=[⟨48,ZHM,ZSW⟩,⟨30,Zzn,ZKP⟩]
def ZlT (a0:U) (a1:Int) (a2:List En):Option Bool:=
 optC (ZBY (a0,45,())) none fun d4=>
 bif !d4 then
 bif decide (a1≥0) then
 bif decide (a1<(↑(List.length a0.2.2.2):Int)) then
 bif decide ((↑a2.length:Int)≤20) then optC (ZrI (a2,())) none fun d5=>some d5 else some false
 else some false
 else some false
 else some false
theorem ZO1 (a0:U) (a1:Int) (a2:List En):evGX (cxU ZE9 [] 40 1048576) keeps 8 22 ZA3 (.dat .bool) ((a0,a1,a2,()):(U×(Int×((List En)×Unit))))=ZlT a0 a1 a2:=by kernel_rfl
def Jt (x:(U×(Int×((List En)×Unit)))):Option Bool:=ZlT x.1 x.2.1 x.2.2.1
def Zd0:List AV→Prog AV:=conP true ZA3 (.dat .bool) Jt
theorem Zhl:Zd Tryz.prog 22 Zd0:=Zc (calU ZE9 [] 40 1048576 8 22) true (by rfl) (by rfl) (fun x r e=>(Zg _ _ _ _ _ _ _).trans ((ZO1 x.1 x.2.1 x.2.2.1).trans e)) (.inl rfl)
end
theorem ZTr (most:Int) (U0:List Int) (U1:List Int) (U2:Int) (U3:List C):∀ (l:List C) (i:Nat) (s:Int),
  Zl (fun i s d=>W5 most U0 U1 U2 U3 i s d) (fun s=>ZfU most U0 U1 U2 U3 s) i l s=some (.inl (U0,U1,U2,U3)) ∨
  Zl (fun i s d=>W5 most U0 U1 U2 U3 i s d) (fun s=>ZfU most U0 U1 U2 U3 s) i l s=some (.inr (true,U0,U1,U2,U3))
 | [],i,s=>.inl rfl
 | d::r,i,s=>by
  simp only [Zl]
  have h:W5 most U0 U1 U2 U3 i s d=bif decide (IntKind.i64.wrap (s+(d.2.length:Int))>most) then some (.inr (.inr (true,U0,U1,U2,U3))) else some (.inl (IntKind.i64.wrap (s+(d.2.length:Int)))):=rfl
  rw [h]
  cases decide (IntKind.i64.wrap (s+(d.2.length:Int))>most)
  ·exact ZTr most U0 U1 U2 U3 r (i+1) _
  ·exact .inr rfl
theorem ZVL (u:U) (most:Int) (hs:sizeU u):∃ b,Zvi u most=some b∧(b=false→unitOK u):=by
 unfold Zvi ZJl
 by_cases h1:(u.2.2.2.length:Int)>4
 ·rw [decide_eq_true h1];exact ⟨_,rfl,fun k=>nomatch k⟩
 by_cases h2:(u.1.length:Int)>10
 ·rw [decide_eq_false h1,decide_eq_true h2];exact ⟨_,rfl,fun k=>nomatch k⟩
 by_cases h3:(u.2.1.length:Int)>10
 ·rw [decide_eq_false h1,decide_eq_false h2,decide_eq_true h3];exact ⟨_,rfl,fun k=>nomatch k⟩
 rw [decide_eq_false h1,decide_eq_false h2,decide_eq_false h3]
 simp only [cond_false]
 have q:=ZIH most u.1 u.2.1 u.2.2.1 u.2.2.2 0 hs.2.2.1
 have q2:Zdr (most,0,0,u)=_:=q
 rw [q2]
 unfold Zmu
 rcases ZTr most u.1 u.2.1 u.2.2.1 u.2.2.2 u.2.2.2 0 0 with h | h
 ·rw [h]
  simp only [Zb,Sum.elim_inl]
  obtain ⟨b,hb,hk⟩:=ZYT u hs
  have hb2:Zv3 (u.1,u.2.1,u.2.2.1,u.2.2.2)=some b:=hb
  rw [hb2]
  refine ⟨!b,rfl,fun k=>hk (by simpa using k)⟩
 ·rw [h]
  exact ⟨true,rfl,fun k=>nomatch k⟩
def arrI (e:En):Int:=if e.2.1=true then 1 else 0
def cmpI (x y:Int) (r:Int):Int:=if x<y then -1 else if x>y then 1 else r
def ordI (a b:En):Int:=cmpI a.1 b.1 (cmpI (arrI a) (arrI b) (cmpI a.2.2.1 b.2.2.1 (cmpI a.2.2.2.1 b.2.2.2.1 0)))
theorem ZVM (e:En):Zvk e=some (arrI e):=by
 unfold Zvk arrI
 cases e.2.1<;>rfl
theorem Z0m (x0 x1 x2 x3 y0 y1 y2 y3:Int):ZeD (0,[x0,x1,x2,x3],[y0,y1,y2,y3]) =
  some (if cmpI x0 y0 (cmpI x1 y1 (cmpI x2 y2 (cmpI x3 y3 0)))=0 then .inl () else .inr (cmpI x0 y0 (cmpI x1 y1 (cmpI x2 y2 (cmpI x3 y3 0))))):=by
 unfold ZeD
 refine ZsP 5 Zj _ _ (by decide) ?_
 have go:∀ (n:Nat) (i:Nat) (x y:Int) (X Y:List Int),X[i]? = some x→Y[i]? = some y→i<4→iterO J1 (n+1) ((i:Int),X,Y) =
   if x<y then some (.inr (-1)) else if x>y then some (.inr 1) else iterO J1 n (((i+1:Nat):Int),X,Y):=by
  intro n i x y X Y hx hy hi
  rw [iterO]
  simp only [J1,Zrt]
  rw [show decide ((i:Int)<4)=true from decide_eq_true (by omega),show decide (0≤(i:Int))=true from decide_eq_true (by omega),Int.toNat_natCast,hx,hy]
  rw [Zm hi (by omega)]
  simp only [cond_true,Zb]
  by_cases h1:x<y
  ·rw [decide_eq_true h1,if_pos h1];rfl
  ·by_cases h2:x>y
   ·rw [decide_eq_false h1,decide_eq_true h2,if_neg h1,if_pos h2];rfl
   ·rw [decide_eq_false h1,decide_eq_false h2,if_neg h1,if_neg h2];rfl
 have e0:=go 4 0 x0 y0 [x0,x1,x2,x3] [y0,y1,y2,y3] rfl rfl (by decide)
 have e1:=go 3 1 x1 y1 [x0,x1,x2,x3] [y0,y1,y2,y3] rfl rfl (by decide)
 have e2:=go 2 2 x2 y2 [x0,x1,x2,x3] [y0,y1,y2,y3] rfl rfl (by decide)
 have e3:=go 1 3 x3 y3 [x0,x1,x2,x3] [y0,y1,y2,y3] rfl rfl (by decide)
 have e4:iterO J1 1 (((3+1:Nat):Int),[x0,x1,x2,x3],[y0,y1,y2,y3])=some (.inl ()):=by rfl
 refine e0.trans ?_
 rw [e1,e2,e3,e4]
 unfold cmpI
 by_cases a0:x0<y0
 ·simp [a0]
 by_cases b0:x0>y0
 ·simp [a0,b0]
 by_cases a1:x1<y1
 ·simp [a0,b0,a1]
 by_cases b1:x1>y1
 ·simp [a0,b0,a1,b1]
 by_cases a2:x2<y2
 ·simp [a0,b0,a1,b1,a2]
 by_cases b2:x2>y2
 ·simp [a0,b0,a1,b1,a2,b2]
 by_cases a3:x3<y3
 ·simp [a0,b0,a1,b1,a2,b2,a3]
 by_cases b3:x3>y3
 ·simp [a0,b0,a1,b1,a2,b2,a3,b3]
 simp [a0,b0,a1,b1,a2,b2,a3,b3]
theorem ZlX (a b:En):Zqm a b=some (ordI a b):=by
 unfold Zqm Zu6
 simp only [ZVM,Zb,Z0m]
 unfold ordI
 split
 ·rename_i h;rw [h];rfl
 ·rfl
structure entOK (e:En):Prop where
 v:isB e.2.2.2.2=true
 n:empB e.2.2.2.2=false
 h:0≤e.2.2.2.1∧e.2.2.2.1<2147483648
structure tabOK (l:List En):Prop where
 e:∀ x∈l,entOK x
 s:∀ (i:Nat) (a b:En),l[i]? = some a→l[i+1]? = some b→ordI a b<0
def entB (e:En):Bool:=isB e.2.2.2.2 && !empB e.2.2.2.2 && !decide (e.2.2.2.1<0) && !decide (e.2.2.2.1≥2147483648)
def Zy4 (l:List En) (i:Nat) (d:En):Bool:=entB d&&(bif decide (i>0) then (l[i - 1]?).elim false (fun p=>!decide (ordI p d≥0)) else true)
def ZD9 (l:List En):Bool:=allIx (Zy4 l) 0 l
theorem ZOO (l:List En) (hl:l.length<9223372036854775807):Zym l=some (ZD9 l):=by
 unfold Zym
 rw [ZKD l () hl]
 unfold Zol
 rw [ZbT (p:=Zy4 l) (o:=.inr false) l 0 fun j d hd=>?_]
 ·unfold ZD9
  cases allIx (Zy4 l) 0 l<;>rfl
 ·have hj:j<l.length:=(List.getElem?_eq_some_iff.1 hd).1
  unfold Zg1 ZnF K8 Zy4 entB
  simp only [ZRE,ZlX,Zb,Nat.zero_add]
  cases isB d.2.2.2.2
  ·rfl
  by_cases h1:d.2.2.2.2.1>d.2.2.2.2.2
  ·rw [decide_eq_true h1,show empB d.2.2.2.2=true from Zoy h1];rfl
  rw [decide_eq_false h1,show empB d.2.2.2.2=false from Z0 (Int.not_lt.1 h1)]
  by_cases h2:d.2.2.2.1<0
  ·rw [decide_eq_true h2];rfl
  by_cases h3:d.2.2.2.1≥2147483648
  ·rw [decide_eq_false h2,decide_eq_true h3];rfl
  rw [decide_eq_false h2,decide_eq_false h3]
  by_cases h4:j>0
  ·rw [show decide ((j:Int)>0)=true from decide_eq_true (by omega),decide_eq_true h4]
   have e5:IntKind.i64.wrap ((j:Int) - 1)=((j - 1:Nat):Int):=by rw [Zou (by omega) (by omega)];omega
   rw [e5,show decide (0≤((j - 1:Nat):Int))=true from decide_eq_true (by omega),Int.toNat_natCast]
   obtain ⟨p,hp⟩:∃ p,l[j - 1]? = some p:=⟨l[j - 1]'(by omega),List.getElem?_eq_getElem _⟩
   rw [hp]
   simp only [cond_true,cond_false,Zb,Option.elim_some,Bool.not_true,Bool.not_false,Bool.true_and]
   cases decide (ordI p d≥0)<;>rfl
  ·rw [show decide ((j:Int)>0)=false from decide_eq_false (by omega),decide_eq_false h4];rfl
theorem ZRy {l:List En} (h:ZD9 l=true):tabOK l:=by
 have k:=ZvJ.1 h
 have ent:∀ (j:Nat) (d:En),l[j]? = some d→entOK d:=fun j d hd=>by
  have:=k j d hd
  unfold Zy4 entB at this
  simp only [Bool.and_eq_true,Bool.not_eq_true',decide_eq_false_iff_not] at this
  exact ⟨this.1.1.1.1,this.1.1.1.2,by omega⟩
 refine ⟨fun x hx=>?_,fun i a b ha hb=>?_⟩
 ·obtain ⟨j,hj,rfl⟩:=List.mem_iff_getElem.1 hx
  exact ent j _ (List.getElem?_eq_getElem hj)
 ·have:=k (i+1) b hb
  unfold Zy4 at this
  rw [Nat.zero_add,show decide (i+1>0)=true from decide_eq_true (by omega),Nat.add_sub_cancel,ha] at this
  simp only [cond_true,Option.elim_some,Bool.and_eq_true,Bool.not_eq_true',decide_eq_false_iff_not] at this
  omega
structure envOK (u:U) (t:Int) (e:E):Prop where
 c:∃ c,u.2.2.2[t.toNat]? = some c∧(e.2.1.length:Int)=c.1
 g:e.2.2.1.length=u.1.length
 a:e.2.2.2.1.length=u.2.1.length
 must:0≤e.2.2.2.2.1∧e.2.2.2.2.1<2147483648
 may:0≤e.2.2.2.2.2∧e.2.2.2.2.2<2147483648
 v:∀ x∈e.2.1++e.2.2.1++e.2.2.2.1,isB x=true∧empB x=false
structure askedOK (u:U) (t:Int) (l:List En):Prop where
 hu:unitOK u
 ht:0≤t∧t<(u.2.2.2.length:Int)
 hn:l.length≤20
 hl:tabOK l
theorem Zed (u:U) (t:Int) (l:List En) (hs:sizeU u) (hl:l.length<9223372036854775807):∃ b,ZlT u t l=some b∧(b=true→askedOK u t l):=by
 unfold ZlT ZBY ZrI
 obtain ⟨b,hb,hk⟩:=ZVL u 45 hs
 simp only [hb,Zb,ZOO l hl]
 cases b
 case true=>exact ⟨_,rfl,fun k=>nomatch k⟩
 have hu:=hk rfl
 by_cases h1:t≥0
 case neg=>rw [decide_eq_false h1];exact ⟨_,rfl,fun k=>nomatch k⟩
 by_cases h2:t<(u.2.2.2.length:Int)
 case neg=>rw [decide_eq_true h1,decide_eq_false h2];exact ⟨_,rfl,fun k=>nomatch k⟩
 by_cases h3:(l.length:Int)≤20
 ·rw [decide_eq_true h1,decide_eq_true h2,decide_eq_true h3]
  exact ⟨ZD9 l,rfl,fun k=>⟨hu,⟨h1,h2⟩,by omega,ZRy k⟩⟩
 ·rw [decide_eq_true h1,decide_eq_true h2,decide_eq_false h3]
  exact ⟨_,rfl,fun k=>nomatch k⟩
def ZeK  (s6:(List Int)) (i:Nat) (s3:Int) (d:Int):Option (Int⊕Jz):=
 bif decide (d≥0) then
  bif decide (d<31) then
  bif decide (d<0) then
  none
 else some (Sum.inl (IntKind.i64.wrap (↑(BitVec.ofInt IntKind.i64.bits s3 ||| BitVec.ofInt IntKind.i64.bits (IntKind.i64.wrap (1*2 ^ Min.min (Int.toNat d) IntKind.i64.bits))).toNat:Int)))
 else some (Sum.inl (s3))
 else some (Sum.inl (s3))
def Zkp  (s6:(List Int)) (s3:Int):Option Jz:=
 some s3
abbrev ZGJ  (s6:(List Int)) (i:Nat) (s:Int):YD:=(s,s6,(s6.length:Int),(i:Int))
def ZkC  (s6:(List Int)) (s:Int):Option Jz:=Zl (fun i s d=>ZeK  s6 i s d) (fun s=>Zkp  s6 s) 0 s6 s
theorem ZF7  (s6:(List Int)) (s:Int) (hl:s6.length<9223372036854775807):ZcA (s,s6,(s6.length:Int),0)=ZkC  s6 s:=by
 unfold ZcA ZkC
 refine Zk s6 (ZGJ  s6) _ _ ?_ ?_ s (by unfold Zj;omega)
 ·intro i s d hi hd
  have e1:decide ((i:Int)<(s6.length:Int))=true:=decide_eq_true (by omega)
  have e2:decide (0≤(i:Int))=true:=decide_eq_true (by omega)
  have e3:Int.toNat (i:Int)=i:=Int.toNat_natCast i
  have e4:=Zm hi (Nat.le_of_lt hl)
  show ZbX (s) (s6) ((s6.length:Int)) ((i:Int))=upd _ (ZeK  s6 i s d)
  unfold ZbX ZeK
  simp only [e1,e2,e3,e4,hd,cond_true,cond_false,Zb,Zv,Zy,Zw,ZB,ZC,Zx]
 ·intro s
  have e1:decide ((s6.length:Int)<(s6.length:Int))=false:=decide_eq_false (by omega)
  show ZbX (s) (s6) ((s6.length:Int)) ((s6.length:Int))=_
  unfold ZbX Zkp
  rw [e1]
  rfl
section
open Go.Proofs Go.Proofs.YtbdcblpjemmipaaGreat
abbrev YQ:=(Int×(List Int)×Int)
abbrev JT:=Int
def Zca (s0:Int) (s1:List Int) (s5:Int):Option ((Int×(List Int)×Int)⊕Int):=
 bif decide (s5<(↑s1.length:Int)) then
 bif decide (0≤s5) then
 optC s1[s5.toNat]? none fun d5=>
 bif decide (d5≥0) then
 bif decide (0≤s5) then
 optC s1[s5.toNat]? none fun d6=>
 bif decide (d6≤30) then
 bif decide (0≤s5) then
 optC s1[s5.toNat]? none fun d7=>
 bif decide (IntKind.u64.wrap d7<0) then none
 else
 some
 (Sum.inl
 (IntKind.i64.wrap
 (↑(BitVec.ofInt IntKind.i64.bits s0 |||
 BitVec.ofInt IntKind.i64.bits (IntKind.i64.wrap (1*2 ^ Min.min (IntKind.u64.wrap d7).toNat IntKind.i64.bits))).toNat :
 Int),
 s1,IntKind.i64.wrap (s5+1)))
 else none
 else some (Sum.inl (s0,s1,IntKind.i64.wrap (s5+1)))
 else none
 else some (Sum.inl (s0,s1,IntKind.i64.wrap (s5+1)))
 else none
 else some (Sum.inr s0)
def Zk9:YQ→Option (YQ⊕JT):=fun (a,b,c)=>Zca a b c
def ZcD (x:YQ):Option JT:=iterO Zk9 Zj x
def Zvq (a0:Int) (a1:List Int):Option Int:=
 optC (ZcD (a0,a1,0)) none fun d4=>some d4
def Zl1 (x:(Int×((List Int)×Unit))):Option Int:=Zvq x.1 x.2.1
end
def ZeP  (s1:(List Int)) (i:Nat) (s0:Int) (d:Int):Option (Int⊕JT):=
 bif decide (d≥0) then
  bif decide (d≤30) then
  bif decide (IntKind.u64.wrap d<0) then
  none
 else some (Sum.inl (IntKind.i64.wrap (↑(BitVec.ofInt IntKind.i64.bits s0 ||| BitVec.ofInt IntKind.i64.bits (IntKind.i64.wrap (1*2 ^ Min.min (IntKind.u64.wrap d).toNat IntKind.i64.bits))).toNat:Int)))
 else some (Sum.inl (s0))
 else some (Sum.inl (s0))
def Zku  (s1:(List Int)) (s0:Int):Option JT:=
 some s0
abbrev ZGS  (s1:(List Int)) (i:Nat) (s:Int):YQ:=(s,s1,(i:Int))
def ZkJ  (s1:(List Int)) (s:Int):Option JT:=Zl (fun i s d=>ZeP  s1 i s d) (fun s=>Zku  s1 s) 0 s1 s
theorem ZGd  (s1:(List Int)) (s:Int) (hl:s1.length<9223372036854775807):ZcD (s,s1,0)=ZkJ  s1 s:=by
 unfold ZcD ZkJ
 refine Zk s1 (ZGS  s1) _ _ ?_ ?_ s (by unfold Zj;omega)
 ·intro i s d hi hd
  have e1:decide ((i:Int)<(s1.length:Int))=true:=decide_eq_true (by omega)
  have e2:decide (0≤(i:Int))=true:=decide_eq_true (by omega)
  have e3:Int.toNat (i:Int)=i:=Int.toNat_natCast i
  have e4:=Zm hi (Nat.le_of_lt hl)
  show Zca (s) (s1) ((i:Int))=upd _ (ZeP  s1 i s d)
  unfold Zca ZeP
  simp only [e1,e2,e3,e4,hd,cond_true,cond_false,Zb,Zv,Zy,Zw,ZB,ZC,Zx]
 ·intro s
  have e1:decide ((s1.length:Int)<(s1.length:Int))=false:=decide_eq_false (by omega)
  show Zca (s) (s1) ((s1.length:Int))=_
  unfold Zca Zku
  rw [e1]
  rfl
section
open Go.Proofs Go.Proofs.YtbdcblpjemmipaaGreat
abbrev Jh:=(Int×(List Int)×Int)
abbrev QD:=Int
def WB (s0:Int) (s1:List Int) (s5:Int):Option ((Int×(List Int)×Int)⊕Int):=
 bif decide (s5<(↑s1.length:Int)) then
 bif decide (0≤s5) then
 optC s1[s5.toNat]? none fun d5=>
 bif decide (d5≥0) then
 bif decide (0≤s5) then
 optC s1[s5.toNat]? none fun d6=>
 bif decide (d6≤30) then
 bif decide (0≤s5) then
 optC s1[s5.toNat]? none fun d7=>
 bif decide (IntKind.u64.wrap d7<0) then none
 else
 some
 (Sum.inl
 (IntKind.i64.wrap
 (↑(BitVec.ofInt IntKind.i64.bits s0 &&&
 ~~~BitVec.ofInt IntKind.i64.bits (IntKind.i64.wrap (1*2 ^ Min.min (IntKind.u64.wrap d7).toNat IntKind.i64.bits))).toNat :
 Int),
 s1,IntKind.i64.wrap (s5+1)))
 else none
 else some (Sum.inl (s0,s1,IntKind.i64.wrap (s5+1)))
 else none
 else some (Sum.inl (s0,s1,IntKind.i64.wrap (s5+1)))
 else none
 else some (Sum.inr s0)
def Zgk:Jh→Option (Jh⊕QD):=fun (a,b,c)=>WB a b c
def Zar (x:Jh):Option QD:=iterO Zgk Zj x
def ZoE (a0:Int) (a1:List Int):Option Int:=
 optC (Zar (a0,a1,0)) none fun d4=>some d4
def Zfi (x:(Int×((List Int)×Unit))):Option Int:=ZoE x.1 x.2.1
end
def Zcx  (s1:(List Int)) (i:Nat) (s0:Int) (d:Int):Option (Int⊕QD):=
 bif decide (d≥0) then
  bif decide (d≤30) then
  bif decide (IntKind.u64.wrap d<0) then
  none
 else some (Sum.inl (IntKind.i64.wrap (↑(BitVec.ofInt IntKind.i64.bits s0 &&& ~~~BitVec.ofInt IntKind.i64.bits (IntKind.i64.wrap (1*2 ^ Min.min (IntKind.u64.wrap d).toNat IntKind.i64.bits))).toNat:Int)))
 else some (Sum.inl (s0))
 else some (Sum.inl (s0))
def Zf8  (s1:(List Int)) (s0:Int):Option QD:=
 some s0
abbrev ZAZ  (s1:(List Int)) (i:Nat) (s:Int):Jh:=(s,s1,(i:Int))
def Zgf  (s1:(List Int)) (s:Int):Option QD:=Zl (fun i s d=>Zcx  s1 i s d) (fun s=>Zf8  s1 s) 0 s1 s
theorem ZAO  (s1:(List Int)) (s:Int) (hl:s1.length<9223372036854775807):Zar (s,s1,0)=Zgf  s1 s:=by
 unfold Zar Zgf
 refine Zk s1 (ZAZ  s1) _ _ ?_ ?_ s (by unfold Zj;omega)
 ·intro i s d hi hd
  have e1:decide ((i:Int)<(s1.length:Int))=true:=decide_eq_true (by omega)
  have e2:decide (0≤(i:Int))=true:=decide_eq_true (by omega)
  have e3:Int.toNat (i:Int)=i:=Int.toNat_natCast i
  have e4:=Zm hi (Nat.le_of_lt hl)
  show WB (s) (s1) ((i:Int))=upd _ (Zcx  s1 i s d)
  unfold WB Zcx
  simp only [e1,e2,e3,e4,hd,cond_true,cond_false,Zb,Zv,Zy,Zw,ZB,ZC,Zx]
 ·intro s
  have e1:decide ((s1.length:Int)<(s1.length:Int))=false:=decide_eq_false (by omega)
  show WB (s) (s1) ((s1.length:Int))=_
  unfold WB Zf8
  rw [e1]
  rfl
section
open Go.Proofs Go.Proofs.YtbdcblpjemmipaaGreat
def ZHj:List Sh:=[.dat (.int .i64),.dat (.sl (.int .i64))]
def ZKW:List Con:=[⟨200,Zqc,ZwY⟩]
def Zve (a0:Int) (a1:List Int):Option Int:=
 optC (Zhq (a1,())) none fun d3=>some (IntKind.i64.wrap (↑(BitVec.ofInt IntKind.i64.bits a0 ||| BitVec.ofInt IntKind.i64.bits d3).toNat:Int))
theorem ZSq (a0:Int) (a1:List Int):evGX (cxU ZKW [] 40 1048576) keeps 8 177 ZHj (.dat (.int .i64)) ((a0,a1,()):(Int×((List Int)×Unit)))=Zve a0 a1:=by kernel_rfl
def Zak (x:(Int×((List Int)×Unit))):Option Int:=Zve x.1 x.2.1
def ZHK:List AV→Prog AV:=conP true ZHj (.dat (.int .i64)) Zak
theorem ZSU:Zd Tryz.prog 177 ZHK:=Zc (calU ZKW [] 40 1048576 8 177) true (by rfl) (by rfl) (fun x r e=>(Zg _ _ _ _ _ _ _).trans ((ZSq x.1 x.2.1).trans e)) (.inl rfl)
end
section
open Go.Proofs Go.Proofs.YtbdcblpjemmipaaGreat
def Zy7:List Sh:=[.dat (.int .i64),.dat (.sl (.int .i64))]
def ZBJ:List Con:=[⟨200,Zqc,ZwY⟩]
def ZoB (a0:Int) (a1:List Int):Option Int:=
 optC (Zhq (a1,())) none fun d3=>some (IntKind.i64.wrap (↑(BitVec.ofInt IntKind.i64.bits a0 &&& ~~~BitVec.ofInt IntKind.i64.bits d3).toNat:Int))
theorem ZNO (a0:Int) (a1:List Int):evGX (cxU ZBJ [] 40 1048576) keeps 8 178 Zy7 (.dat (.int .i64)) ((a0,a1,()):(Int×((List Int)×Unit)))=ZoB a0 a1:=by kernel_rfl
def Ju (x:(Int×((List Int)×Unit))):Option Int:=ZoB x.1 x.2.1
def Zzj:List AV→Prog AV:=conP true Zy7 (.dat (.int .i64)) Ju
theorem ZN2:Zd Tryz.prog 178 Zzj:=Zc (calU ZBJ [] 40 1048576 8 178) true (by rfl) (by rfl) (fun x r e=>(Zg _ _ _ _ _ _ _).trans ((ZNO x.1 x.2.1).trans e)) (.inl rfl)
end
def W4 (b0 b0_1:Int) (s7:List I) (i:Nat) (b1 b1_1:Int) (d:I):Option ((Int×Int)⊕Kv):=
 bif decide (d.1>d.2) then
  some (Sum.inl (b1,b1_1))
 else bif decide (b1>b1_1) then
  some (Sum.inl (d.1,d.2))
 else some (Sum.inl (if d.1<b1 then d.1 else b1,if d.2>b1_1 then d.2 else b1_1))
def Zmc (b0 b0_1:Int) (s7:List I) (b1 b1_1:Int):Option Kv:=
 some (b0,b0_1,b1,b1_1)
abbrev ZI8 (b0 b0_1:Int) (s7:List I) (i:Nat) (s:Int×Int):Vk:=(s7,(s7.length:Int),(i:Int),b0,b0_1,s.1,s.2)
def Zmt (b0 b0_1:Int) (s7:List I) (s:Int×Int):Option Kv:=Zl (fun i s d=>W4 b0 b0_1 s7 i s.1 s.2 d) (fun s=>Zmc b0 b0_1 s7 s.1 s.2) 0 s7 s
theorem ZIG (b0 b0_1:Int) (s7:List I) (s:Int×Int) (hl:s7.length<9223372036854775807):Zdq (s7,(s7.length:Int),0,b0,b0_1,s.1,s.2)=Zmt b0 b0_1 s7 s:=by
 unfold Zdq Zmt
 refine Zk s7 (ZI8 b0 b0_1 s7) _ _ ?_ ?_ s (by unfold Zj;omega)
 ·intro i s d hi hd
  have e1:decide ((i:Int)<(s7.length:Int))=true:=decide_eq_true (by omega)
  have e2:decide (0≤(i:Int))=true:=decide_eq_true (by omega)
  have e3:Int.toNat (i:Int)=i:=Int.toNat_natCast i
  have e4:=Zm hi (Nat.le_of_lt hl)
  show ZcM (s7) ((s7.length:Int)) ((i:Int)) (b0) (b0_1) (s.1) (s.2)=upd _ (W4 b0 b0_1 s7 i s.1 s.2 d)
  unfold ZcM W4
  simp only [e1,e2,e3,e4,hd,cond_true,cond_false,Zb,Zv,Zy,Zw,ZB,ZC,Zx]
 ·intro s
  have e1:decide ((s7.length:Int)<(s7.length:Int))=false:=decide_eq_false (by omega)
  show ZcM (s7) ((s7.length:Int)) ((s7.length:Int)) (b0) (b0_1) (s.1) (s.2)=_
  unfold ZcM Zmc
  rw [e1]
  rfl
section
open Go.Proofs Go.Proofs.YtbdcblpjemmipaaGreat
def ZJt:List Sh:=[.dat (.sl (.int .i64))]
def ZqJ:Nat→List Nat:=fun c=>bif c.beq 0 then [5,6,7] else [2]
def ZvB:List Con:=[]
def WG:StS:=⟨[(5,.sl (.int .i64)),(6,.int .i64),(7,.int .i64)],[],0⟩
def Zae:StS:=⟨[(2,.undef)],[],0⟩
def Zaf:StS:=⟨[(2,.bool)],[],0⟩
abbrev WD:=((List Int)×Int×Int)
def ZvV:StD WG→WD:=fun ((a,b,c,_),_)=>(a,b,c)
def Zor:WD→StD WG:=fun (a,b,c)=>((a,b,c,()),())
abbrev YF:=Unit
def ZFw (d:StD Zae):YF:=()
def Zln (x:YF):StD Zae:=(((),()),())
abbrev YG:=Bool
def ZFx (d:StD Zaf):YG:=(d.1.1)
def Zlo (x:YG):StD Zaf:=((x,()),())
def Zdw (s5:List Int) (s6 s7:Int):Option (((List Int)×Int×Int)⊕(Unit⊕Bool)):=
 bif decide (s7<s6) then
 bif decide (0≤s7) then
 optC s5[s7.toNat]? none fun d5=>
 bif decide (d5 < -2147483648) then some (Sum.inr (Sum.inr false))
 else bif decide (d5>2147483647) then some (Sum.inr (Sum.inr false)) else some (Sum.inl (s5,s6,IntKind.i64.wrap (s7+1)))
 else none
 else some (Sum.inr (Sum.inl PUnit.unit))
def Zon:WD→Option (WD⊕(YF⊕YG)):=fun (a,b,c)=>Zdw a b c
theorem ZKF (x:WD):rdX (cxU ZvB [] 40 1048576) keeps 8 ⟨69,18,keeps 69,0⟩ 0 (bodyX 69 0) 0 ZqJ (sT WG (Zor x)) (sH WG (Zor x)) (rdO (fun T h=>(rdS WG T h).map ZvV) (getOr (getE 2 Zae ZFw) (getE 1 Zaf ZFx)))=Zon x:=by kernel_rfl
def Zek (x:WD):Option (YF⊕YG):=iterO Zon Zj x
def ZBA:Nat→Tm→Prog (Nat×Tm):=(varP 0 (fun T h=>(rdS WG T h).map ZvV) Zek (fun y=>.alt y (altE 2 Zae Zln) (altE 1 Zaf Zlo)) (fun _ _=>.fail))
def ZzF:Lpc:=⟨69,0,18,(fun base T=>.norm base (ZqJ 0) T (ZBA base)),by kernel_rfl,by kernel_rfl,(loopU ZvB [] 40 1048576 8 (keep:=ZqJ) (q:=ZBA) (by kernel_rfl) (Zp (s:=WG) (un:=Zor) (by rfl) (fun _=>rfl) (ZR (Zi (s:=Zae) (un:=Zln) (by rfl) (fun _=>rfl)) (Zi (s:=Zaf) (un:=Zlo) (by rfl) (fun _=>rfl))) (step:=Zon) ZKF (fun _ _ e=>⟨_,e⟩) (ZQ (Zh 2 Zae Zln) (Zh 1 Zaf Zlo)) (ZA.fail _ _)))⟩
def Zyl (a0:List Int):Option Bool:=
 optC (Zek (a0,(↑a0.length:Int),0)) none fun d3=>Sum.elim (fun e4=>some true) (fun e4=>some e4) d3
theorem ZUB (a0:List Int):evGX (cxU ZvB [ZzF] 40 1048576) keeps 8 69 ZJt (.dat .bool) ((a0,()):((List Int)×Unit))=Zyl a0:=by kernel_rfl
def Zkb (x:(List Int)×Unit):Option Bool:=Zyl x.1
def Zzk:List AV→Prog AV:=conP true ZJt (.dat .bool) Zkb
theorem ZKO:Zd Tryz.prog 69 Zzk:=Zc (calU ZvB [ZzF] 40 1048576 8 69) true (by rfl) (by rfl) (fun x r e=>(Zg _ _ _ _ _ _ _).trans ((ZUB x.1).trans e)) (.inl rfl)
end
section
open Go.Proofs Go.Proofs.YtbdcblpjemmipaaGreat
def ZOe:List Sh:=[.dat (.sl (.int .i64))]
def ZuM:Nat→List Nat:=fun c=>bif c.beq 0 then [2,3,7,8,9] else [2,3]
def ZBK:List Con:=[⟨110,VA,Zau⟩,⟨69,Zzk,ZKO⟩,⟨111,Zas,ZbV⟩]
def ZbU:StS:=⟨[(2,.ptr 0 0),(3,.ptr 1 0),(7,.sl (.int .i64)),(8,.int .i64),(9,.int .i64)],[(0,.box [.int .i64,.int .i64]),(1,.box [.int .i64,.int .i64])],2⟩
def Zco:StS:=⟨[(2,.ptr 0 0),(3,.ptr 1 0)],[(0,.box [.int .i64,.int .i64]),(1,.box [.int .i64,.int .i64])],2⟩
abbrev ZbL:=((List Int)×Int×Int×Int×Int×Int×Int)
def Zzv:StD ZbU→ZbL:=fun ((_,_,a,b,c,_),((d,e,_),(f,g,_),_))=>(a,b,c,d,e,f,g)
def ZqV:ZbL→StD ZbU:=fun (a,b,c,d,e,f,g)=>(((),(),a,b,c,()),((d,e,()),(f,g,()),()))
abbrev WC:=(Int×Int×Int×Int)
def ZKc:StD Zco→WC:=fun ((_,_,_),((a,b,_),(c,d,_),_))=>(a,b,c,d)
def Zoq:WC→StD Zco:=fun (a,b,c,d)=>(((),(),()),((a,b,()),(c,d,()),()))
def Zfw (s7:List Int) (s8 s9 b0 b0_1 b1 b1_1:Int):Option (((List Int)×Int×Int×Int×Int×Int×Int)⊕(Int×Int×Int×Int)):=
 bif decide (s9<s8) then
 bif decide (0≤s9) then
 optC s7[s9.toNat]? none fun d9=>
 optC (Zkb ([d9],())) none fun d10=>
 bif d10 then optC (ZF ([(b1,b1_1),(d9,d9)],())) none fun d11=>some (Sum.inl (s7,s8,IntKind.i64.wrap (s9+1),b0,b0_1,d11.1,d11.2))
 else some (Sum.inl (s7,s8,IntKind.i64.wrap (s9+1),b0,b0_1,b1,b1_1))
 else none
 else some (Sum.inr (b0,b0_1,b1,b1_1))
def ZqU:ZbL→Option (ZbL⊕WC):=fun (a,b,c,d,e,f,g)=>Zfw a b c d e f g
theorem ZNY (x:ZbL):rdX (cxU ZBK [] 40 1048576) keeps 8 ⟨79,24,keeps 79,0⟩ 0 (bodyX 79 0) 0 ZuM (sT ZbU (ZqV x)) (sH ZbU (ZqV x)) (rdO (fun T h=>(rdS ZbU T h).map Zzv) (getE 2 Zco ZKc))=ZqU x:=by kernel_rfl
def ZgO (x:ZbL):Option WC:=iterO ZqU Zj x
def ZHW:Nat→Tm→Prog (Nat×Tm):=(varP 0 (fun T h=>(rdS ZbU T h).map Zzv) ZgO (altE 2 Zco Zoq) (fun _ _=>.fail))
def ZEb:Lpc:=⟨79,0,24,(fun base T=>.norm base (ZuM 0) T (ZHW base)),by kernel_rfl,by kernel_rfl,(loopU ZBK [] 40 1048576 8 (keep:=ZuM) (q:=ZHW) (by kernel_rfl) (Zp (s:=ZbU) (un:=ZqV) (by rfl) (fun _=>rfl) (Zi (s:=Zco) (un:=Zoq) (by rfl) (fun _=>rfl)) (step:=ZqU) ZNY (fun _ _ e=>⟨_,e⟩) (Zh 2 Zco Zoq) (ZA.fail _ _)))⟩
def ZFE (a0:List Int):Option I:=
 optC (ZgO (a0,(↑a0.length:Int),0,0,0,1,0)) none fun d3=>some (d3.2.2.1,d3.2.2.2)
theorem ZX4 (a0:List Int):evGX (cxU ZBK [ZEb] 40 1048576) keeps 8 79 ZOe (.dat tI) ((a0,()):((List Int)×Unit))=ZFE a0:=by kernel_rfl
def Zuq (x:(List Int)×Unit):Option I:=ZFE x.1
def ZFs:List AV→Prog AV:=conP true ZOe (.dat tI) Zuq
theorem ZPj:Zd Tryz.prog 79 ZFs:=Zc (calU ZBK [ZEb] 40 1048576 8 79) true (by rfl) (by rfl) (fun x r e=>(Zg _ _ _ _ _ _ _).trans ((ZX4 x.1).trans e)) (.inl rfl)
end
def Zkl (b0 b0_1:Int) (s7:List Int) (i:Nat) (b1 b1_1 d:Int):Option ((Int×Int)⊕WC):=
 optC (Zkb ([d],())) (none) fun d10=>
  bif d10 then
  optC (ZF ([(b1,b1_1),(d,d)],())) (none) fun d11=>
  some (Sum.inl (d11.1,d11.2))
 else some (Sum.inl (b1,b1_1))
def ZqH (b0 b0_1:Int) (s7:List Int) (b1 b1_1:Int):Option WC:=
 some (b0,b0_1,b1,b1_1)
abbrev ZN0 (b0 b0_1:Int) (s7:List Int) (i:Nat) (s:Int×Int):ZbL:=(s7,(s7.length:Int),(i:Int),b0,b0_1,s.1,s.2)
def ZqT (b0 b0_1:Int) (s7:List Int) (s:Int×Int):Option WC:=Zl (fun i s d=>Zkl b0 b0_1 s7 i s.1 s.2 d) (fun s=>ZqH b0 b0_1 s7 s.1 s.2) 0 s7 s
theorem ZNX (b0 b0_1:Int) (s7:List Int) (s:Int×Int) (hl:s7.length<9223372036854775807):ZgO (s7,(s7.length:Int),0,b0,b0_1,s.1,s.2)=ZqT b0 b0_1 s7 s:=by
 unfold ZgO ZqT
 refine Zk s7 (ZN0 b0 b0_1 s7) _ _ ?_ ?_ s (by unfold Zj;omega)
 ·intro i s d hi hd
  have e1:decide ((i:Int)<(s7.length:Int))=true:=decide_eq_true (by omega)
  have e2:decide (0≤(i:Int))=true:=decide_eq_true (by omega)
  have e3:Int.toNat (i:Int)=i:=Int.toNat_natCast i
  have e4:=Zm hi (Nat.le_of_lt hl)
  show Zfw (s7) ((s7.length:Int)) ((i:Int)) (b0) (b0_1) (s.1) (s.2)=upd _ (Zkl b0 b0_1 s7 i s.1 s.2 d)
  unfold Zfw Zkl
  simp only [e1,e2,e3,e4,hd,cond_true,cond_false,Zb,Zv,Zy,Zw,ZB,ZC,Zx]
 ·intro s
  have e1:decide ((s7.length:Int)<(s7.length:Int))=false:=decide_eq_false (by omega)
  show Zfw (s7) ((s7.length:Int)) ((s7.length:Int)) (b0) (b0_1) (s.1) (s.2)=_
  unfold Zfw ZqH
  rw [e1]
  rfl
def Zg0  (s5:(List Int)) (i:Nat)  (d:Int):Option (Unit⊕(YF⊕YG)):=
 bif decide (d < -2147483648) then
  some (Sum.inr (Sum.inr false))
 else bif decide (d>2147483647) then
  some (Sum.inr (Sum.inr false))
 else some (Sum.inl ())
def ZnO  (s5:(List Int)):Option (YF⊕YG):=
 some (Sum.inl PUnit.unit)
abbrev ZKJ  (s5:(List Int)) (i:Nat) (s:Unit):WD:=(s5,(s5.length:Int),(i:Int))
def Zok  (s5:(List Int)) (s:Unit):Option (YF⊕YG):=Zl (fun i s d=>Zg0  s5 i  d) (fun s=>ZnO  s5 ) 0 s5 s
theorem ZKC  (s5:(List Int)) (s:Unit) (hl:s5.length<9223372036854775807):Zek (s5,(s5.length:Int),0)=Zok  s5 s:=by
 unfold Zek Zok
 refine Zk s5 (ZKJ  s5) _ _ ?_ ?_ s (by unfold Zj;omega)
 ·intro i s d hi hd
  have e1:decide ((i:Int)<(s5.length:Int))=true:=decide_eq_true (by omega)
  have e2:decide (0≤(i:Int))=true:=decide_eq_true (by omega)
  have e3:Int.toNat (i:Int)=i:=Int.toNat_natCast i
  have e4:=Zm hi (Nat.le_of_lt hl)
  show Zdw (s5) ((s5.length:Int)) ((i:Int))=upd _ (Zg0  s5 i  d)
  unfold Zdw Zg0
  simp only [e1,e2,e3,e4,hd,cond_true,cond_false,Zb,Zv,Zy,Zw,ZB,ZC,Zx]
 ·intro s
  have e1:decide ((s5.length:Int)<(s5.length:Int))=false:=decide_eq_false (by omega)
  show Zdw (s5) ((s5.length:Int)) ((s5.length:Int))=_
  unfold Zdw ZnO
  rw [e1]
  rfl
section
open Go.Proofs Go.Proofs.YtbdcblpjemmipaaGreat
def ZJr:List Sh:=[.dat tI,.dat tI]
def ZMX:List Con:=[⟨153,Yb,VX⟩,⟨110,VA,Zau⟩]
def Zyk (a0 a1:I):Option I:=
 bif decide (a0.1>a0.2) then some (1,0)
 else
 bif decide (a1.1>a1.2) then some (1,0)
 else
 bif decide ((if a1.1>a0.1 then a1.1 else a0.1)>if a1.2<a0.2 then a1.2 else a0.2) then some (1,0)
 else some (if a1.1>a0.1 then a1.1 else a0.1,if a1.2<a0.2 then a1.2 else a0.2)
theorem ZUz (a0 a1:I):evGX (cxU ZMX [] 40 1048576) keeps 8 174 ZJr (.dat tI) ((a0,a1,()):(I×(I×Unit)))=Zyk a0 a1:=by kernel_rfl
def Zz (x:I×(I×Unit)):Option I:=Zyk x.1 x.2.1
def ZnJ:List AV→Prog AV:=conP true ZJr (.dat tI) Zz
theorem Ztg:Zd Tryz.prog 174 ZnJ:=Zc (calU ZMX [] 40 1048576 8 174) true (by rfl) (by rfl) (fun x r e=>(Zg _ _ _ _ _ _ _).trans ((ZUz x.1 x.2.1).trans e)) (.inl rfl)
end
section
open Go.Proofs Go.Proofs.YtbdcblpjemmipaaGreat
def ZMf:List Sh:=[]
def ZPq:List Con:=[]
def ZRt:Option I:=
 some (-2147483648,2147483647)
theorem ZVV:evGX (cxU ZPq [] 40 1048576) keeps 8 130 ZMf (.dat tI) (():Unit)=ZRt:=by kernel_rfl
def ZYg (x:Unit):Option I:=ZRt
def Zu8:List AV→Prog AV:=conP true ZMf (.dat tI) ZYg
theorem ZCU:Zd Tryz.prog 130 Zu8:=Zc (calU ZPq [] 40 1048576 8 130) true (by rfl) (by rfl) (fun x r e=>(Zg _ _ _ _ _ _ _).trans ((ZVV ).trans e)) (.inl rfl)
end
section
open Go.Proofs Go.Proofs.YtbdcblpjemmipaaGreat
def ZMh:List Sh:=[.dat tI,.dat tI]
def ZPs:List Con:=[⟨153,Yb,VX⟩]
def ZBo (a0 a1:I):Option Bool:=
 bif decide (a0.1>a0.2) then some true else bif decide (a0.1≥a1.1) then some (decide (a0.2≤a1.2)) else some false
theorem ZVX (a0 a1:I):evGX (cxU ZPs [] 40 1048576) keeps 8 126 ZMh (.dat .bool) ((a0,a1,()):(I×(I×Unit)))=ZBo a0 a1:=by kernel_rfl
def Q0 (x:I×(I×Unit)):Option Bool:=ZBo x.1 x.2.1
def ZpO:List AV→Prog AV:=conP true ZMh (.dat .bool) Q0
theorem Zvy:Zd Tryz.prog 126 ZpO:=Zc (calU ZPs [] 40 1048576 8 126) true (by rfl) (by rfl) (fun x r e=>(Zg _ _ _ _ _ _ _).trans ((ZVX x.1 x.2.1).trans e)) (.inl rfl)
end
section
open Go.Proofs Go.Proofs.YtbdcblpjemmipaaGreat
def Zw3:List Sh:=[.dat tI,.dat tI]
def Zhx:Nat→List Nat:=fun c=>bif c.beq 0 then [2,3,4,6,7,15,16,17] else [4,6,7]
def ZkN:List Con:=[⟨110,VA,Zau⟩,⟨174,ZnJ,Ztg⟩,⟨153,Yb,VX⟩,⟨130,Zu8,ZCU⟩,⟨111,Zas,ZbV⟩,⟨126,ZpO,Zvy⟩]
def QU:StS:=⟨[(2,.ptr 0 0),(3,.ptr 1 0),(4,.ptr 2 0),(6,.ptr 3 0),(7,.bool),(15,.row 4),(16,.int .i64),(17,.int .i64)],[(0,.box [.int .i64,.int .i64]),(1,.box [.int .i64,.int .i64]),(2,.box [.int .i64,.int .i64]),(3,.box [.int .i64,.int .i64]),(4,.row tI)],5⟩
def Jq:StS:=⟨[(4,.ptr 0 0),(6,.ptr 1 0),(7,.bool)],[(0,.box [.int .i64,.int .i64]),(1,.box [.int .i64,.int .i64])],2⟩
abbrev QO:=(Bool×Int×Int×Int×Int×Int×Int×Int×Int×Int×Int×(List I))
def ZnN:StD QU→QO:=fun ((_,_,_,_,a,_,b,c,_),((d,e,_),(f,g,_),(h,i,_),(j,k,_),l,_))=>(a,b,c,d,e,f,g,h,i,j,k,l)
def Zfy:QO→StD QU:=fun (a,b,c,d,e,f,g,h,i,j,k,l)=>(((),(),(),(),a,(),b,c,()),((d,e,()),(f,g,()),(h,i,()),(j,k,()),l,()))
abbrev Qi:=(Bool×Int×Int×Int×Int)
def ZwS:StD Jq→Qi:=fun ((_,_,a,_),((b,c,_),(d,e,_),_))=>(a,b,c,d,e)
def Zei:Qi→StD Jq:=fun (a,b,c,d,e)=>(((),(),a,()),((b,c,()),(d,e,()),()))
def VV (s7:Bool) (s16 s17 b0 b0_1 b1 b1_1 b2 b2_1 b3 b3_1:Int) (b4:List I):Option ((Bool×Int×Int×Int×Int×Int×Int×Int×Int×Int×Int×(List I))⊕(Bool×Int×Int×Int×Int)):=
 bif decide (s17<s16) then
 bif decide (0≤s17) then
 optC b4[s17.toNat]? none fun d14=>
 optC b4[s17.toNat]? none fun d15=>
 optC (Zz ((b1,b1_1),d15,())) none fun d16=>
 bif !decide (d16.1>d16.2) then
 bif decide (d16.1=0) then none
 else
 bif decide (d16.2=0) then none
 else
 bif decide (d16.1=0) then none
 else
 bif decide (d16.2=0) then none
 else
 optC
 (Zz
 ((if
 IntKind.i64.wrap (b0_1.tdiv d16.2) <
 if
 IntKind.i64.wrap (b0_1.tdiv d16.1) <
 if IntKind.i64.wrap (b0.tdiv d16.2)<IntKind.i64.wrap (b0.tdiv d16.1) then IntKind.i64.wrap (b0.tdiv d16.2)
 else IntKind.i64.wrap (b0.tdiv d16.1) then
 IntKind.i64.wrap (b0_1.tdiv d16.1)
 else
 if IntKind.i64.wrap (b0.tdiv d16.2)<IntKind.i64.wrap (b0.tdiv d16.1) then IntKind.i64.wrap (b0.tdiv d16.2)
 else IntKind.i64.wrap (b0.tdiv d16.1) then
 IntKind.i64.wrap (b0_1.tdiv d16.2)
 else
 if
 IntKind.i64.wrap (b0_1.tdiv d16.1) <
 if IntKind.i64.wrap (b0.tdiv d16.2)<IntKind.i64.wrap (b0.tdiv d16.1) then IntKind.i64.wrap (b0.tdiv d16.2)
 else IntKind.i64.wrap (b0.tdiv d16.1) then
 IntKind.i64.wrap (b0_1.tdiv d16.1)
 else
 if IntKind.i64.wrap (b0.tdiv d16.2)<IntKind.i64.wrap (b0.tdiv d16.1) then IntKind.i64.wrap (b0.tdiv d16.2) else IntKind.i64.wrap (b0.tdiv d16.1),
 if
 IntKind.i64.wrap (b0_1.tdiv d16.2) >
 if
 IntKind.i64.wrap (b0_1.tdiv d16.1) >
 if IntKind.i64.wrap (b0.tdiv d16.2)>IntKind.i64.wrap (b0.tdiv d16.1) then IntKind.i64.wrap (b0.tdiv d16.2)
 else IntKind.i64.wrap (b0.tdiv d16.1) then
 IntKind.i64.wrap (b0_1.tdiv d16.1)
 else
 if IntKind.i64.wrap (b0.tdiv d16.2)>IntKind.i64.wrap (b0.tdiv d16.1) then IntKind.i64.wrap (b0.tdiv d16.2)
 else IntKind.i64.wrap (b0.tdiv d16.1) then
 IntKind.i64.wrap (b0_1.tdiv d16.2)
 else
 if
 IntKind.i64.wrap (b0_1.tdiv d16.1) >
 if IntKind.i64.wrap (b0.tdiv d16.2)>IntKind.i64.wrap (b0.tdiv d16.1) then IntKind.i64.wrap (b0.tdiv d16.2)
 else IntKind.i64.wrap (b0.tdiv d16.1) then
 IntKind.i64.wrap (b0_1.tdiv d16.1)
 else
 if IntKind.i64.wrap (b0.tdiv d16.2)>IntKind.i64.wrap (b0.tdiv d16.1) then IntKind.i64.wrap (b0.tdiv d16.2) else IntKind.i64.wrap (b0.tdiv d16.1)),
 (-2147483648,2147483647),()))
 none fun d17=>
 optC (ZF ([(b3,b3_1),d17],())) none fun d18=>
 bif s7 then some (Sum.inl (true,s16,IntKind.i64.wrap (s17+1),b0,b0_1,b1,b1_1,b2,b2_1,d18.1,d18.2,b4))
 else
 optC
 (Q0
 ((if
 IntKind.i64.wrap (b0_1.tdiv d16.2) <
 if
 IntKind.i64.wrap (b0_1.tdiv d16.1) <
 if IntKind.i64.wrap (b0.tdiv d16.2)<IntKind.i64.wrap (b0.tdiv d16.1) then IntKind.i64.wrap (b0.tdiv d16.2)
 else IntKind.i64.wrap (b0.tdiv d16.1) then
 IntKind.i64.wrap (b0_1.tdiv d16.1)
 else
 if IntKind.i64.wrap (b0.tdiv d16.2)<IntKind.i64.wrap (b0.tdiv d16.1) then IntKind.i64.wrap (b0.tdiv d16.2)
 else IntKind.i64.wrap (b0.tdiv d16.1) then
 IntKind.i64.wrap (b0_1.tdiv d16.2)
 else
 if
 IntKind.i64.wrap (b0_1.tdiv d16.1) <
 if IntKind.i64.wrap (b0.tdiv d16.2)<IntKind.i64.wrap (b0.tdiv d16.1) then IntKind.i64.wrap (b0.tdiv d16.2)
 else IntKind.i64.wrap (b0.tdiv d16.1) then
 IntKind.i64.wrap (b0_1.tdiv d16.1)
 else
 if IntKind.i64.wrap (b0.tdiv d16.2)<IntKind.i64.wrap (b0.tdiv d16.1) then IntKind.i64.wrap (b0.tdiv d16.2)
 else IntKind.i64.wrap (b0.tdiv d16.1),
 if
 IntKind.i64.wrap (b0_1.tdiv d16.2) >
 if
 IntKind.i64.wrap (b0_1.tdiv d16.1) >
 if IntKind.i64.wrap (b0.tdiv d16.2)>IntKind.i64.wrap (b0.tdiv d16.1) then IntKind.i64.wrap (b0.tdiv d16.2)
 else IntKind.i64.wrap (b0.tdiv d16.1) then
 IntKind.i64.wrap (b0_1.tdiv d16.1)
 else
 if IntKind.i64.wrap (b0.tdiv d16.2)>IntKind.i64.wrap (b0.tdiv d16.1) then IntKind.i64.wrap (b0.tdiv d16.2)
 else IntKind.i64.wrap (b0.tdiv d16.1) then
 IntKind.i64.wrap (b0_1.tdiv d16.2)
 else
 if
 IntKind.i64.wrap (b0_1.tdiv d16.1) >
 if IntKind.i64.wrap (b0.tdiv d16.2)>IntKind.i64.wrap (b0.tdiv d16.1) then IntKind.i64.wrap (b0.tdiv d16.2)
 else IntKind.i64.wrap (b0.tdiv d16.1) then
 IntKind.i64.wrap (b0_1.tdiv d16.1)
 else
 if IntKind.i64.wrap (b0.tdiv d16.2)>IntKind.i64.wrap (b0.tdiv d16.1) then IntKind.i64.wrap (b0.tdiv d16.2)
 else IntKind.i64.wrap (b0.tdiv d16.1)),
 (-2147483648,2147483647),()))
 none fun d19=>some (Sum.inl (!d19,s16,IntKind.i64.wrap (s17+1),b0,b0_1,b1,b1_1,b2,b2_1,d18.1,d18.2,b4))
 else some (Sum.inl (s7,s16,IntKind.i64.wrap (s17+1),b0,b0_1,b1,b1_1,b2,b2_1,b3,b3_1,b4))
 else none
 else some (Sum.inr (s7,b2,b2_1,b3,b3_1))
def Zfx:QO→Option (QO⊕Qi):=fun (a,b,c,d,e,f,g,h,i,j,k,l)=>VV a b c d e f g h i j k l
theorem Zz9 (x:QO):rdX (cxU ZkN [] 40 1048576) keeps 8 ⟨195,46,keeps 195,0⟩ 0 (bodyX 195 0) 0 Zhx (sT QU (Zfy x)) (sH QU (Zfy x)) (rdO (fun T h=>(rdS QU T h).map ZnN) (getE 2 Jq ZwS))=Zfx x:=by kernel_rfl
def Ww (x:QO):Option Qi:=iterO Zfx Zj x
def Zrn:Nat→Tm→Prog (Nat×Tm):=(varP 0 (fun T h=>(rdS QU T h).map ZnN) Ww (altE 2 Jq Zei) (fun _ _=>.fail))
def Zp0:Lpc:=⟨195,0,46,(fun base T=>.norm base (Zhx 0) T (Zrn base)),by kernel_rfl,by kernel_rfl,(loopU ZkN [] 40 1048576 8 (keep:=Zhx) (q:=Zrn) (by kernel_rfl) (Zp (s:=QU) (un:=Zfy) (by rfl) (fun _=>rfl) (Zi (s:=Jq) (un:=Zei) (by rfl) (fun _=>rfl)) (step:=Zfx) Zz9 (fun _ _ e=>⟨_,e⟩) (Zh 2 Jq Zei) (ZA.fail _ _)))⟩
def Znn (a0 a1:I):Option (I×(Bool×Unit)):=
 optC (Ww (false,(↑[(1,2147483647),(-2147483648,-1)].length:Int),0,a0.1,a0.2,a1.1,a1.2,0,0,1,0,[(1,2147483647),(-2147483648,-1)])) none
 fun d4=>some ((d4.2.2.2.1,d4.2.2.2.2),d4.1,PUnit.unit)
theorem ZLK (a0 a1:I):evGX (cxU ZkN [Zp0] 40 1048576) keeps 8 195 Zw3 (.tup [.dat tI,.dat .bool]) ((a0,a1,()):(I×(I×Unit)))=Znn a0 a1:=by kernel_rfl
def ZrH (x:I×(I×Unit)):Option (I×(Bool×Unit)):=Znn x.1 x.2.1
def Zw7:List AV→Prog AV:=conP true Zw3 (.tup [.dat tI,.dat .bool]) ZrH
theorem ZMa:Zd Tryz.prog 195 Zw7:=Zc (calU ZkN [Zp0] 40 1048576 8 195) true (by rfl) (by rfl) (fun x r e=>(Zg _ _ _ _ _ _ _).trans ((ZLK x.1 x.2.1).trans e)) (.inl rfl)
end
def JW (b0 b0_1 b1 b1_1 b2 b2_1:Int) (b4:List I) (i:Nat) (s7:Bool) (b3 b3_1:Int) (d:I):Option ((Bool×Int×Int)⊕Qi):=
 optC (Zz ((b1,b1_1),d,())) (none) fun d16=>
  bif !decide (d16.1>d16.2) then
  bif decide (d16.1=0) then
  none
 else bif decide (d16.2=0) then
  none
 else bif decide (d16.1=0) then
  none
 else bif decide (d16.2=0) then
  none
 else optC (Zz ((if IntKind.i64.wrap (b0_1.tdiv d16.2)<if IntKind.i64.wrap (b0_1.tdiv d16.1)<if IntKind.i64.wrap (b0.tdiv d16.2)<IntKind.i64.wrap (b0.tdiv d16.1) then IntKind.i64.wrap (b0.tdiv d16.2) else IntKind.i64.wrap (b0.tdiv d16.1) then IntKind.i64.wrap (b0_1.tdiv d16.1) else if IntKind.i64.wrap (b0.tdiv d16.2)<IntKind.i64.wrap (b0.tdiv d16.1) then IntKind.i64.wrap (b0.tdiv d16.2) else IntKind.i64.wrap (b0.tdiv d16.1) then IntKind.i64.wrap (b0_1.tdiv d16.2) else if IntKind.i64.wrap (b0_1.tdiv d16.1)<if IntKind.i64.wrap (b0.tdiv d16.2)<IntKind.i64.wrap (b0.tdiv d16.1) then IntKind.i64.wrap (b0.tdiv d16.2) else IntKind.i64.wrap (b0.tdiv d16.1) then IntKind.i64.wrap (b0_1.tdiv d16.1) else if IntKind.i64.wrap (b0.tdiv d16.2)<IntKind.i64.wrap (b0.tdiv d16.1) then IntKind.i64.wrap (b0.tdiv d16.2) else IntKind.i64.wrap (b0.tdiv d16.1),if IntKind.i64.wrap (b0_1.tdiv d16.2)>if IntKind.i64.wrap (b0_1.tdiv d16.1)>if IntKind.i64.wrap (b0.tdiv d16.2)>IntKind.i64.wrap (b0.tdiv d16.1) then IntKind.i64.wrap (b0.tdiv d16.2) else IntKind.i64.wrap (b0.tdiv d16.1) then IntKind.i64.wrap (b0_1.tdiv d16.1) else if IntKind.i64.wrap (b0.tdiv d16.2)>IntKind.i64.wrap (b0.tdiv d16.1) then IntKind.i64.wrap (b0.tdiv d16.2) else IntKind.i64.wrap (b0.tdiv d16.1) then IntKind.i64.wrap (b0_1.tdiv d16.2) else if IntKind.i64.wrap (b0_1.tdiv d16.1)>if IntKind.i64.wrap (b0.tdiv d16.2)>IntKind.i64.wrap (b0.tdiv d16.1) then IntKind.i64.wrap (b0.tdiv d16.2) else IntKind.i64.wrap (b0.tdiv d16.1) then IntKind.i64.wrap (b0_1.tdiv d16.1) else if IntKind.i64.wrap (b0.tdiv d16.2)>IntKind.i64.wrap (b0.tdiv d16.1) then IntKind.i64.wrap (b0.tdiv d16.2) else IntKind.i64.wrap (b0.tdiv d16.1)),(-2147483648,2147483647),())) (none) fun d17=>
  optC (ZF ([(b3,b3_1),d17],())) (none) fun d18=>
  bif s7 then
  some (Sum.inl (true,d18.1,d18.2))
 else optC (Q0 ((if IntKind.i64.wrap (b0_1.tdiv d16.2)<if IntKind.i64.wrap (b0_1.tdiv d16.1)<if IntKind.i64.wrap (b0.tdiv d16.2)<IntKind.i64.wrap (b0.tdiv d16.1) then IntKind.i64.wrap (b0.tdiv d16.2) else IntKind.i64.wrap (b0.tdiv d16.1) then IntKind.i64.wrap (b0_1.tdiv d16.1) else if IntKind.i64.wrap (b0.tdiv d16.2)<IntKind.i64.wrap (b0.tdiv d16.1) then IntKind.i64.wrap (b0.tdiv d16.2) else IntKind.i64.wrap (b0.tdiv d16.1) then IntKind.i64.wrap (b0_1.tdiv d16.2) else if IntKind.i64.wrap (b0_1.tdiv d16.1)<if IntKind.i64.wrap (b0.tdiv d16.2)<IntKind.i64.wrap (b0.tdiv d16.1) then IntKind.i64.wrap (b0.tdiv d16.2) else IntKind.i64.wrap (b0.tdiv d16.1) then IntKind.i64.wrap (b0_1.tdiv d16.1) else if IntKind.i64.wrap (b0.tdiv d16.2)<IntKind.i64.wrap (b0.tdiv d16.1) then IntKind.i64.wrap (b0.tdiv d16.2) else IntKind.i64.wrap (b0.tdiv d16.1),if IntKind.i64.wrap (b0_1.tdiv d16.2)>if IntKind.i64.wrap (b0_1.tdiv d16.1)>if IntKind.i64.wrap (b0.tdiv d16.2)>IntKind.i64.wrap (b0.tdiv d16.1) then IntKind.i64.wrap (b0.tdiv d16.2) else IntKind.i64.wrap (b0.tdiv d16.1) then IntKind.i64.wrap (b0_1.tdiv d16.1) else if IntKind.i64.wrap (b0.tdiv d16.2)>IntKind.i64.wrap (b0.tdiv d16.1) then IntKind.i64.wrap (b0.tdiv d16.2) else IntKind.i64.wrap (b0.tdiv d16.1) then IntKind.i64.wrap (b0_1.tdiv d16.2) else if IntKind.i64.wrap (b0_1.tdiv d16.1)>if IntKind.i64.wrap (b0.tdiv d16.2)>IntKind.i64.wrap (b0.tdiv d16.1) then IntKind.i64.wrap (b0.tdiv d16.2) else IntKind.i64.wrap (b0.tdiv d16.1) then IntKind.i64.wrap (b0_1.tdiv d16.1) else if IntKind.i64.wrap (b0.tdiv d16.2)>IntKind.i64.wrap (b0.tdiv d16.1) then IntKind.i64.wrap (b0.tdiv d16.2) else IntKind.i64.wrap (b0.tdiv d16.1)),(-2147483648,2147483647),())) (none) fun d19=>
  some (Sum.inl (!d19,d18.1,d18.2))
 else some (Sum.inl (s7,b3,b3_1))
def Zfr (b0 b0_1 b1 b1_1 b2 b2_1:Int) (b4:List I) (s7:Bool) (b3 b3_1:Int):Option Qi:=
 some (s7,b2,b2_1,b3,b3_1)
abbrev ZAc (b0 b0_1 b1 b1_1 b2 b2_1:Int) (b4:List I) (i:Nat) (s:Bool×Int×Int):QO:=(s.1,(b4.length:Int),(i:Int),b0,b0_1,b1,b1_1,b2,b2_1,s.2.1,s.2.2,b4)
def Zfv (b0 b0_1 b1 b1_1 b2 b2_1:Int) (b4:List I) (s:Bool×Int×Int):Option Qi:=Zl (fun i s d=>JW b0 b0_1 b1 b1_1 b2 b2_1 b4 i s.1 s.2.1 s.2.2 d) (fun s=>Zfr b0 b0_1 b1 b1_1 b2 b2_1 b4 s.1 s.2.1 s.2.2) 0 b4 s
theorem Zz8 (b0 b0_1 b1 b1_1 b2 b2_1:Int) (b4:List I) (s:Bool×Int×Int) (hl:b4.length<9223372036854775807):Ww (s.1,(b4.length:Int),0,b0,b0_1,b1,b1_1,b2,b2_1,s.2.1,s.2.2,b4)=Zfv b0 b0_1 b1 b1_1 b2 b2_1 b4 s:=by
 unfold Ww Zfv
 refine Zk b4 (ZAc b0 b0_1 b1 b1_1 b2 b2_1 b4) _ _ ?_ ?_ s (by unfold Zj;omega)
 ·intro i s d hi hd
  have e1:decide ((i:Int)<(b4.length:Int))=true:=decide_eq_true (by omega)
  have e2:decide (0≤(i:Int))=true:=decide_eq_true (by omega)
  have e3:Int.toNat (i:Int)=i:=Int.toNat_natCast i
  have e4:=Zm hi (Nat.le_of_lt hl)
  show VV (s.1) ((b4.length:Int)) ((i:Int)) (b0) (b0_1) (b1) (b1_1) (b2) (b2_1) (s.2.1) (s.2.2) (b4)=upd _ (JW b0 b0_1 b1 b1_1 b2 b2_1 b4 i s.1 s.2.1 s.2.2 d)
  unfold VV JW
  simp only [e1,e2,e3,e4,hd,cond_true,cond_false,Zb,Zv,Zy,Zw,ZB,ZC,Zx]
 ·intro s
  have e1:decide ((b4.length:Int)<(b4.length:Int))=false:=decide_eq_false (by omega)
  show VV (s.1) ((b4.length:Int)) ((b4.length:Int)) (b0) (b0_1) (b1) (b1_1) (b2) (b2_1) (s.2.1) (s.2.2) (b4)=_
  unfold VV Zfr
  rw [e1]
  rfl
section
open Go.Proofs Go.Proofs.YtbdcblpjemmipaaGreat
def ZMg:List Sh:=[.dat tI,.dat (.int .i64)]
def ZPr:List Con:=[]
def ZBn (a0:I) (a1:Int):Option Bool:=
 bif decide (a1≥a0.1) then some (decide (a1≤a0.2)) else some false
theorem ZVW (a0:I) (a1:Int):evGX (cxU ZPr [] 40 1048576) keeps 8 196 ZMg (.dat .bool) ((a0,a1,()):(I×(Int×Unit)))=ZBn a0 a1:=by kernel_rfl
def ZA0 (x:I×(Int×Unit)):Option Bool:=ZBn x.1 x.2.1
def ZMq:List AV→Prog AV:=conP true ZMg (.dat .bool) ZA0
theorem ZV8:Zd Tryz.prog 196 ZMq:=Zc (calU ZPr [] 40 1048576 8 196) true (by rfl) (by rfl) (fun x r e=>(Zg _ _ _ _ _ _ _).trans ((ZVW x.1 x.2.1).trans e)) (.inl rfl)
end
section
open Go.Proofs Go.Proofs.YtbdcblpjemmipaaGreat
def ZHn:List Sh:=[.dat tI,.dat tI]
def ZKY:List Con:=[⟨110,VA,Zau⟩]
def Zvh (a0 a1:I):Option I:=
 bif a1.1==0&&a1.2==0 then some (1,0)
 else
 bif decide (a0.1<0) then
 bif decide (a0.2>0) then
 some
 (if
 IntKind.i64.wrap
 (0 -
 IntKind.i64.wrap
 ((if
 IntKind.i64.wrap (0 - a1.1) >
 if a1.1>if IntKind.i64.wrap (0 - a1.2)>a1.2 then IntKind.i64.wrap (0 - a1.2) else a1.2 then a1.1
 else if IntKind.i64.wrap (0 - a1.2)>a1.2 then IntKind.i64.wrap (0 - a1.2) else a1.2 then
 IntKind.i64.wrap (0 - a1.1)
 else
 if a1.1>if IntKind.i64.wrap (0 - a1.2)>a1.2 then IntKind.i64.wrap (0 - a1.2) else a1.2 then a1.1
 else if IntKind.i64.wrap (0 - a1.2)>a1.2 then IntKind.i64.wrap (0 - a1.2) else a1.2) -
 1)) >
 a0.1 then
 IntKind.i64.wrap
 (0 -
 IntKind.i64.wrap
 ((if
 IntKind.i64.wrap (0 - a1.1) >
 if a1.1>if IntKind.i64.wrap (0 - a1.2)>a1.2 then IntKind.i64.wrap (0 - a1.2) else a1.2 then a1.1
 else if IntKind.i64.wrap (0 - a1.2)>a1.2 then IntKind.i64.wrap (0 - a1.2) else a1.2 then
 IntKind.i64.wrap (0 - a1.1)
 else
 if a1.1>if IntKind.i64.wrap (0 - a1.2)>a1.2 then IntKind.i64.wrap (0 - a1.2) else a1.2 then a1.1
 else if IntKind.i64.wrap (0 - a1.2)>a1.2 then IntKind.i64.wrap (0 - a1.2) else a1.2) -
 1))
 else a0.1,
 if
 IntKind.i64.wrap
 ((if
 IntKind.i64.wrap (0 - a1.1) >
 if a1.1>if IntKind.i64.wrap (0 - a1.2)>a1.2 then IntKind.i64.wrap (0 - a1.2) else a1.2 then a1.1
 else if IntKind.i64.wrap (0 - a1.2)>a1.2 then IntKind.i64.wrap (0 - a1.2) else a1.2 then
 IntKind.i64.wrap (0 - a1.1)
 else
 if a1.1>if IntKind.i64.wrap (0 - a1.2)>a1.2 then IntKind.i64.wrap (0 - a1.2) else a1.2 then a1.1
 else if IntKind.i64.wrap (0 - a1.2)>a1.2 then IntKind.i64.wrap (0 - a1.2) else a1.2) -
 1) <
 a0.2 then
 IntKind.i64.wrap
 ((if
 IntKind.i64.wrap (0 - a1.1) >
 if a1.1>if IntKind.i64.wrap (0 - a1.2)>a1.2 then IntKind.i64.wrap (0 - a1.2) else a1.2 then a1.1
 else if IntKind.i64.wrap (0 - a1.2)>a1.2 then IntKind.i64.wrap (0 - a1.2) else a1.2 then
 IntKind.i64.wrap (0 - a1.1)
 else
 if a1.1>if IntKind.i64.wrap (0 - a1.2)>a1.2 then IntKind.i64.wrap (0 - a1.2) else a1.2 then a1.1
 else if IntKind.i64.wrap (0 - a1.2)>a1.2 then IntKind.i64.wrap (0 - a1.2) else a1.2) -
 1)
 else a0.2)
 else
 some
 (if
 IntKind.i64.wrap
 (0 -
 IntKind.i64.wrap
 ((if
 IntKind.i64.wrap (0 - a1.1) >
 if a1.1>if IntKind.i64.wrap (0 - a1.2)>a1.2 then IntKind.i64.wrap (0 - a1.2) else a1.2 then a1.1
 else if IntKind.i64.wrap (0 - a1.2)>a1.2 then IntKind.i64.wrap (0 - a1.2) else a1.2 then
 IntKind.i64.wrap (0 - a1.1)
 else
 if a1.1>if IntKind.i64.wrap (0 - a1.2)>a1.2 then IntKind.i64.wrap (0 - a1.2) else a1.2 then a1.1
 else if IntKind.i64.wrap (0 - a1.2)>a1.2 then IntKind.i64.wrap (0 - a1.2) else a1.2) -
 1)) >
 a0.1 then
 IntKind.i64.wrap
 (0 -
 IntKind.i64.wrap
 ((if
 IntKind.i64.wrap (0 - a1.1) >
 if a1.1>if IntKind.i64.wrap (0 - a1.2)>a1.2 then IntKind.i64.wrap (0 - a1.2) else a1.2 then a1.1
 else if IntKind.i64.wrap (0 - a1.2)>a1.2 then IntKind.i64.wrap (0 - a1.2) else a1.2 then
 IntKind.i64.wrap (0 - a1.1)
 else
 if a1.1>if IntKind.i64.wrap (0 - a1.2)>a1.2 then IntKind.i64.wrap (0 - a1.2) else a1.2 then a1.1
 else if IntKind.i64.wrap (0 - a1.2)>a1.2 then IntKind.i64.wrap (0 - a1.2) else a1.2) -
 1))
 else a0.1,
 0)
 else
 bif decide (a0.2>0) then
 some
 (0,
 if
 IntKind.i64.wrap
 ((if
 IntKind.i64.wrap (0 - a1.1) >
 if a1.1>if IntKind.i64.wrap (0 - a1.2)>a1.2 then IntKind.i64.wrap (0 - a1.2) else a1.2 then a1.1
 else if IntKind.i64.wrap (0 - a1.2)>a1.2 then IntKind.i64.wrap (0 - a1.2) else a1.2 then
 IntKind.i64.wrap (0 - a1.1)
 else
 if a1.1>if IntKind.i64.wrap (0 - a1.2)>a1.2 then IntKind.i64.wrap (0 - a1.2) else a1.2 then a1.1
 else if IntKind.i64.wrap (0 - a1.2)>a1.2 then IntKind.i64.wrap (0 - a1.2) else a1.2) -
 1) <
 a0.2 then
 IntKind.i64.wrap
 ((if
 IntKind.i64.wrap (0 - a1.1) >
 if a1.1>if IntKind.i64.wrap (0 - a1.2)>a1.2 then IntKind.i64.wrap (0 - a1.2) else a1.2 then a1.1
 else if IntKind.i64.wrap (0 - a1.2)>a1.2 then IntKind.i64.wrap (0 - a1.2) else a1.2 then
 IntKind.i64.wrap (0 - a1.1)
 else
 if a1.1>if IntKind.i64.wrap (0 - a1.2)>a1.2 then IntKind.i64.wrap (0 - a1.2) else a1.2 then a1.1
 else if IntKind.i64.wrap (0 - a1.2)>a1.2 then IntKind.i64.wrap (0 - a1.2) else a1.2) -
 1)
 else a0.2)
 else some (0,0)
theorem ZSu (a0 a1:I):evGX (cxU ZKY [] 40 1048576) keeps 8 197 ZHn (.dat tI) ((a0,a1,()):(I×(I×Unit)))=Zvh a0 a1:=by kernel_rfl
def ZBX (x:I×(I×Unit)):Option I:=Zvh x.1 x.2.1
def ZHL:List AV→Prog AV:=conP true ZHn (.dat tI) ZBX
theorem ZSV:Zd Tryz.prog 197 ZHL:=Zc (calU ZKY [] 40 1048576 8 197) true (by rfl) (by rfl) (fun x r e=>(Zg _ _ _ _ _ _ _).trans ((ZSu x.1 x.2.1).trans e)) (.inl rfl)
end
section
open Go.Proofs Go.Proofs.YtbdcblpjemmipaaGreat
def ZOd:List Sh:=[.dat (.int .i64),.dat tI,.dat tI]
def ZR3:List Con:=[⟨153,Yb,VX⟩,⟨110,VA,Zau⟩,⟨195,Zw7,ZMa⟩,⟨196,ZMq,ZV8⟩,⟨197,ZHL,ZSV⟩,⟨130,Zu8,ZCU⟩,⟨174,ZnJ,Ztg⟩,⟨126,ZpO,Zvy⟩]
def ZFD (a0:Int) (a1 a2:I):Option (I×(Bool×(Bool×Unit))):=
 bif decide (a1.1>a1.2) then some ((1,0),false,false,PUnit.unit)
 else
 bif decide (a2.1>a2.2) then some ((1,0),false,false,PUnit.unit)
 else
 bif a0==1 then
 optC (Zz ((IntKind.i64.wrap (a1.1+a2.1),IntKind.i64.wrap (a1.2+a2.2)),(-2147483648,2147483647),())) none fun d4=>
 optC (Q0 ((IntKind.i64.wrap (a1.1+a2.1),IntKind.i64.wrap (a1.2+a2.2)),(-2147483648,2147483647),())) none fun d5=>
 some ((d4.1,d4.2),!d5,false,PUnit.unit)
 else
 bif a0==2 then
 optC (Zz ((IntKind.i64.wrap (a1.1 - a2.2),IntKind.i64.wrap (a1.2 - a2.1)),(-2147483648,2147483647),())) none fun d4=>
 optC (Q0 ((IntKind.i64.wrap (a1.1 - a2.2),IntKind.i64.wrap (a1.2 - a2.1)),(-2147483648,2147483647),())) none fun d5=>
 some ((d4.1,d4.2),!d5,false,PUnit.unit)
 else
 bif a0==3 then
 optC
 (Zz
 ((if
 IntKind.i64.wrap (a1.2*a2.2) <
 if
 IntKind.i64.wrap (a1.2*a2.1) <
 if IntKind.i64.wrap (a1.1*a2.2)<IntKind.i64.wrap (a1.1*a2.1) then IntKind.i64.wrap (a1.1*a2.2)
 else IntKind.i64.wrap (a1.1*a2.1) then
 IntKind.i64.wrap (a1.2*a2.1)
 else if IntKind.i64.wrap (a1.1*a2.2)<IntKind.i64.wrap (a1.1*a2.1) then IntKind.i64.wrap (a1.1*a2.2) else IntKind.i64.wrap (a1.1*a2.1) then
 IntKind.i64.wrap (a1.2*a2.2)
 else
 if
 IntKind.i64.wrap (a1.2*a2.1) <
 if IntKind.i64.wrap (a1.1*a2.2)<IntKind.i64.wrap (a1.1*a2.1) then IntKind.i64.wrap (a1.1*a2.2) else IntKind.i64.wrap (a1.1*a2.1) then
 IntKind.i64.wrap (a1.2*a2.1)
 else if IntKind.i64.wrap (a1.1*a2.2)<IntKind.i64.wrap (a1.1*a2.1) then IntKind.i64.wrap (a1.1*a2.2) else IntKind.i64.wrap (a1.1*a2.1),
 if
 IntKind.i64.wrap (a1.2*a2.2) >
 if
 IntKind.i64.wrap (a1.2*a2.1) >
 if IntKind.i64.wrap (a1.1*a2.2)>IntKind.i64.wrap (a1.1*a2.1) then IntKind.i64.wrap (a1.1*a2.2)
 else IntKind.i64.wrap (a1.1*a2.1) then
 IntKind.i64.wrap (a1.2*a2.1)
 else if IntKind.i64.wrap (a1.1*a2.2)>IntKind.i64.wrap (a1.1*a2.1) then IntKind.i64.wrap (a1.1*a2.2) else IntKind.i64.wrap (a1.1*a2.1) then
 IntKind.i64.wrap (a1.2*a2.2)
 else
 if
 IntKind.i64.wrap (a1.2*a2.1) >
 if IntKind.i64.wrap (a1.1*a2.2)>IntKind.i64.wrap (a1.1*a2.1) then IntKind.i64.wrap (a1.1*a2.2) else IntKind.i64.wrap (a1.1*a2.1) then
 IntKind.i64.wrap (a1.2*a2.1)
 else if IntKind.i64.wrap (a1.1*a2.2)>IntKind.i64.wrap (a1.1*a2.1) then IntKind.i64.wrap (a1.1*a2.2) else IntKind.i64.wrap (a1.1*a2.1)),
 (-2147483648,2147483647),()))
 none fun d4=>
 optC
 (Q0
 ((if
 IntKind.i64.wrap (a1.2*a2.2) <
 if
 IntKind.i64.wrap (a1.2*a2.1) <
 if IntKind.i64.wrap (a1.1*a2.2)<IntKind.i64.wrap (a1.1*a2.1) then IntKind.i64.wrap (a1.1*a2.2)
 else IntKind.i64.wrap (a1.1*a2.1) then
 IntKind.i64.wrap (a1.2*a2.1)
 else
 if IntKind.i64.wrap (a1.1*a2.2)<IntKind.i64.wrap (a1.1*a2.1) then IntKind.i64.wrap (a1.1*a2.2) else IntKind.i64.wrap (a1.1*a2.1) then
 IntKind.i64.wrap (a1.2*a2.2)
 else
 if
 IntKind.i64.wrap (a1.2*a2.1) <
 if IntKind.i64.wrap (a1.1*a2.2)<IntKind.i64.wrap (a1.1*a2.1) then IntKind.i64.wrap (a1.1*a2.2) else IntKind.i64.wrap (a1.1*a2.1) then
 IntKind.i64.wrap (a1.2*a2.1)
 else if IntKind.i64.wrap (a1.1*a2.2)<IntKind.i64.wrap (a1.1*a2.1) then IntKind.i64.wrap (a1.1*a2.2) else IntKind.i64.wrap (a1.1*a2.1),
 if
 IntKind.i64.wrap (a1.2*a2.2) >
 if
 IntKind.i64.wrap (a1.2*a2.1) >
 if IntKind.i64.wrap (a1.1*a2.2)>IntKind.i64.wrap (a1.1*a2.1) then IntKind.i64.wrap (a1.1*a2.2)
 else IntKind.i64.wrap (a1.1*a2.1) then
 IntKind.i64.wrap (a1.2*a2.1)
 else
 if IntKind.i64.wrap (a1.1*a2.2)>IntKind.i64.wrap (a1.1*a2.1) then IntKind.i64.wrap (a1.1*a2.2) else IntKind.i64.wrap (a1.1*a2.1) then
 IntKind.i64.wrap (a1.2*a2.2)
 else
 if
 IntKind.i64.wrap (a1.2*a2.1) >
 if IntKind.i64.wrap (a1.1*a2.2)>IntKind.i64.wrap (a1.1*a2.1) then IntKind.i64.wrap (a1.1*a2.2) else IntKind.i64.wrap (a1.1*a2.1) then
 IntKind.i64.wrap (a1.2*a2.1)
 else if IntKind.i64.wrap (a1.1*a2.2)>IntKind.i64.wrap (a1.1*a2.1) then IntKind.i64.wrap (a1.1*a2.2) else IntKind.i64.wrap (a1.1*a2.1)),
 (-2147483648,2147483647),()))
 none fun d5=>some ((d4.1,d4.2),!d5,false,PUnit.unit)
 else
 bif a0==4 then
 optC (ZrH (a1,a2,())) none fun d4=>
 optC (ZA0 (a2,0,())) none fun d5=>some ((d4.1.1,d4.1.2),d4.2.1,d5,PUnit.unit)
 else
 bif a0==5 then
 optC (ZBX (a1,a2,())) none fun d4=>optC (ZA0 (a2,0,())) none fun d5=>some ((d4.1,d4.2),false,d5,PUnit.unit)
 else some ((1,0),!true,false,PUnit.unit)
theorem ZX3 (a0:Int) (a1 a2:I):evGX (cxU ZR3 [] 40 1048576) keeps 8 170 ZOd (.tup [.dat tI,.dat .bool,.dat .bool]) ((a0,a1,a2,()):(Int×(I×(I×Unit))))=ZFD a0 a1 a2:=by kernel_rfl
def ZyY (x:(Int×(I×(I×Unit)))):Option (I×(Bool×(Bool×Unit))):=ZFD x.1 x.2.1 x.2.2.1
def ZOm:List AV→Prog AV:=conP true ZOd (.tup [.dat tI,.dat .bool,.dat .bool]) ZyY
theorem ZX9:Zd Tryz.prog 170 ZOm:=Zc (calU ZR3 [] 40 1048576 8 170) true (by rfl) (by rfl) (fun x r e=>(Zg _ _ _ _ _ _ _).trans ((ZX3 x.1 x.2.1 x.2.2.1).trans e)) (.inl rfl)
end
section
open Go.Proofs Go.Proofs.YtbdcblpjemmipaaGreat
def Zyp (a0 a1:I):Option I:=
 bif a1.1==0 then
 bif a1.2==0 then some (1,0)
 else
 bif decide (a0.1<0) then
 bif decide (a0.2>0) then
 some
 (if
 IntKind.i64.wrap
 (0 -
 IntKind.i64.wrap
 ((if
 IntKind.i64.wrap (0 - a1.2) >
 if a1.2>if IntKind.i64.wrap (0 - a1.1)>a1.1 then IntKind.i64.wrap (0 - a1.1) else a1.1 then a1.2
 else if IntKind.i64.wrap (0 - a1.1)>a1.1 then IntKind.i64.wrap (0 - a1.1) else a1.1 then
 IntKind.i64.wrap (0 - a1.2)
 else
 if a1.2>if IntKind.i64.wrap (0 - a1.1)>a1.1 then IntKind.i64.wrap (0 - a1.1) else a1.1 then a1.2
 else if IntKind.i64.wrap (0 - a1.1)>a1.1 then IntKind.i64.wrap (0 - a1.1) else a1.1) -
 1)) >
 a0.1 then
 IntKind.i64.wrap
 (0 -
 IntKind.i64.wrap
 ((if
 IntKind.i64.wrap (0 - a1.2) >
 if a1.2>if IntKind.i64.wrap (0 - a1.1)>a1.1 then IntKind.i64.wrap (0 - a1.1) else a1.1 then a1.2
 else if IntKind.i64.wrap (0 - a1.1)>a1.1 then IntKind.i64.wrap (0 - a1.1) else a1.1 then
 IntKind.i64.wrap (0 - a1.2)
 else
 if a1.2>if IntKind.i64.wrap (0 - a1.1)>a1.1 then IntKind.i64.wrap (0 - a1.1) else a1.1 then a1.2
 else if IntKind.i64.wrap (0 - a1.1)>a1.1 then IntKind.i64.wrap (0 - a1.1) else a1.1) -
 1))
 else a0.1,
 if
 IntKind.i64.wrap
 ((if
 IntKind.i64.wrap (0 - a1.2) >
 if a1.2>if IntKind.i64.wrap (0 - a1.1)>a1.1 then IntKind.i64.wrap (0 - a1.1) else a1.1 then a1.2
 else if IntKind.i64.wrap (0 - a1.1)>a1.1 then IntKind.i64.wrap (0 - a1.1) else a1.1 then
 IntKind.i64.wrap (0 - a1.2)
 else
 if a1.2>if IntKind.i64.wrap (0 - a1.1)>a1.1 then IntKind.i64.wrap (0 - a1.1) else a1.1 then a1.2
 else if IntKind.i64.wrap (0 - a1.1)>a1.1 then IntKind.i64.wrap (0 - a1.1) else a1.1) -
 1) <
 a0.2 then
 IntKind.i64.wrap
 ((if
 IntKind.i64.wrap (0 - a1.2) >
 if a1.2>if IntKind.i64.wrap (0 - a1.1)>a1.1 then IntKind.i64.wrap (0 - a1.1) else a1.1 then a1.2
 else if IntKind.i64.wrap (0 - a1.1)>a1.1 then IntKind.i64.wrap (0 - a1.1) else a1.1 then
 IntKind.i64.wrap (0 - a1.2)
 else
 if a1.2>if IntKind.i64.wrap (0 - a1.1)>a1.1 then IntKind.i64.wrap (0 - a1.1) else a1.1 then a1.2
 else if IntKind.i64.wrap (0 - a1.1)>a1.1 then IntKind.i64.wrap (0 - a1.1) else a1.1) -
 1)
 else a0.2)
 else
 some
 (if
 IntKind.i64.wrap
 (0 -
 IntKind.i64.wrap
 ((if
 IntKind.i64.wrap (0 - a1.2) >
 if a1.2>if IntKind.i64.wrap (0 - a1.1)>a1.1 then IntKind.i64.wrap (0 - a1.1) else a1.1 then a1.2
 else if IntKind.i64.wrap (0 - a1.1)>a1.1 then IntKind.i64.wrap (0 - a1.1) else a1.1 then
 IntKind.i64.wrap (0 - a1.2)
 else
 if a1.2>if IntKind.i64.wrap (0 - a1.1)>a1.1 then IntKind.i64.wrap (0 - a1.1) else a1.1 then a1.2
 else if IntKind.i64.wrap (0 - a1.1)>a1.1 then IntKind.i64.wrap (0 - a1.1) else a1.1) -
 1)) >
 a0.1 then
 IntKind.i64.wrap
 (0 -
 IntKind.i64.wrap
 ((if
 IntKind.i64.wrap (0 - a1.2) >
 if a1.2>if IntKind.i64.wrap (0 - a1.1)>a1.1 then IntKind.i64.wrap (0 - a1.1) else a1.1 then a1.2
 else if IntKind.i64.wrap (0 - a1.1)>a1.1 then IntKind.i64.wrap (0 - a1.1) else a1.1 then
 IntKind.i64.wrap (0 - a1.2)
 else
 if a1.2>if IntKind.i64.wrap (0 - a1.1)>a1.1 then IntKind.i64.wrap (0 - a1.1) else a1.1 then a1.2
 else if IntKind.i64.wrap (0 - a1.1)>a1.1 then IntKind.i64.wrap (0 - a1.1) else a1.1) -
 1))
 else a0.1,
 0)
 else
 bif decide (a0.2>0) then
 some
 (0,
 if
 IntKind.i64.wrap
 ((if
 IntKind.i64.wrap (0 - a1.2) >
 if a1.2>if IntKind.i64.wrap (0 - a1.1)>a1.1 then IntKind.i64.wrap (0 - a1.1) else a1.1 then a1.2
 else if IntKind.i64.wrap (0 - a1.1)>a1.1 then IntKind.i64.wrap (0 - a1.1) else a1.1 then
 IntKind.i64.wrap (0 - a1.2)
 else
 if a1.2>if IntKind.i64.wrap (0 - a1.1)>a1.1 then IntKind.i64.wrap (0 - a1.1) else a1.1 then a1.2
 else if IntKind.i64.wrap (0 - a1.1)>a1.1 then IntKind.i64.wrap (0 - a1.1) else a1.1) -
 1) <
 a0.2 then
 IntKind.i64.wrap
 ((if
 IntKind.i64.wrap (0 - a1.2) >
 if a1.2>if IntKind.i64.wrap (0 - a1.1)>a1.1 then IntKind.i64.wrap (0 - a1.1) else a1.1 then a1.2
 else if IntKind.i64.wrap (0 - a1.1)>a1.1 then IntKind.i64.wrap (0 - a1.1) else a1.1 then
 IntKind.i64.wrap (0 - a1.2)
 else
 if a1.2>if IntKind.i64.wrap (0 - a1.1)>a1.1 then IntKind.i64.wrap (0 - a1.1) else a1.1 then a1.2
 else if IntKind.i64.wrap (0 - a1.1)>a1.1 then IntKind.i64.wrap (0 - a1.1) else a1.1) -
 1)
 else a0.2)
 else some (0,0)
 else
 bif decide (a0.1<0) then
 bif decide (a0.2>0) then
 some
 (if
 IntKind.i64.wrap
 (0 -
 IntKind.i64.wrap
 ((if
 IntKind.i64.wrap (0 - a1.2) >
 if a1.2>if IntKind.i64.wrap (0 - a1.1)>a1.1 then IntKind.i64.wrap (0 - a1.1) else a1.1 then a1.2
 else if IntKind.i64.wrap (0 - a1.1)>a1.1 then IntKind.i64.wrap (0 - a1.1) else a1.1 then
 IntKind.i64.wrap (0 - a1.2)
 else
 if a1.2>if IntKind.i64.wrap (0 - a1.1)>a1.1 then IntKind.i64.wrap (0 - a1.1) else a1.1 then a1.2
 else if IntKind.i64.wrap (0 - a1.1)>a1.1 then IntKind.i64.wrap (0 - a1.1) else a1.1) -
 1)) >
 a0.1 then
 IntKind.i64.wrap
 (0 -
 IntKind.i64.wrap
 ((if
 IntKind.i64.wrap (0 - a1.2) >
 if a1.2>if IntKind.i64.wrap (0 - a1.1)>a1.1 then IntKind.i64.wrap (0 - a1.1) else a1.1 then a1.2
 else if IntKind.i64.wrap (0 - a1.1)>a1.1 then IntKind.i64.wrap (0 - a1.1) else a1.1 then
 IntKind.i64.wrap (0 - a1.2)
 else
 if a1.2>if IntKind.i64.wrap (0 - a1.1)>a1.1 then IntKind.i64.wrap (0 - a1.1) else a1.1 then a1.2
 else if IntKind.i64.wrap (0 - a1.1)>a1.1 then IntKind.i64.wrap (0 - a1.1) else a1.1) -
 1))
 else a0.1,
 if
 IntKind.i64.wrap
 ((if
 IntKind.i64.wrap (0 - a1.2) >
 if a1.2>if IntKind.i64.wrap (0 - a1.1)>a1.1 then IntKind.i64.wrap (0 - a1.1) else a1.1 then a1.2
 else if IntKind.i64.wrap (0 - a1.1)>a1.1 then IntKind.i64.wrap (0 - a1.1) else a1.1 then
 IntKind.i64.wrap (0 - a1.2)
 else
 if a1.2>if IntKind.i64.wrap (0 - a1.1)>a1.1 then IntKind.i64.wrap (0 - a1.1) else a1.1 then a1.2
 else if IntKind.i64.wrap (0 - a1.1)>a1.1 then IntKind.i64.wrap (0 - a1.1) else a1.1) -
 1) <
 a0.2 then
 IntKind.i64.wrap
 ((if
 IntKind.i64.wrap (0 - a1.2) >
 if a1.2>if IntKind.i64.wrap (0 - a1.1)>a1.1 then IntKind.i64.wrap (0 - a1.1) else a1.1 then a1.2
 else if IntKind.i64.wrap (0 - a1.1)>a1.1 then IntKind.i64.wrap (0 - a1.1) else a1.1 then
 IntKind.i64.wrap (0 - a1.2)
 else
 if a1.2>if IntKind.i64.wrap (0 - a1.1)>a1.1 then IntKind.i64.wrap (0 - a1.1) else a1.1 then a1.2
 else if IntKind.i64.wrap (0 - a1.1)>a1.1 then IntKind.i64.wrap (0 - a1.1) else a1.1) -
 1)
 else a0.2)
 else
 some
 (if
 IntKind.i64.wrap
 (0 -
 IntKind.i64.wrap
 ((if
 IntKind.i64.wrap (0 - a1.2) >
 if a1.2>if IntKind.i64.wrap (0 - a1.1)>a1.1 then IntKind.i64.wrap (0 - a1.1) else a1.1 then a1.2
 else if IntKind.i64.wrap (0 - a1.1)>a1.1 then IntKind.i64.wrap (0 - a1.1) else a1.1 then
 IntKind.i64.wrap (0 - a1.2)
 else
 if a1.2>if IntKind.i64.wrap (0 - a1.1)>a1.1 then IntKind.i64.wrap (0 - a1.1) else a1.1 then a1.2
 else if IntKind.i64.wrap (0 - a1.1)>a1.1 then IntKind.i64.wrap (0 - a1.1) else a1.1) -
 1)) >
 a0.1 then
 IntKind.i64.wrap
 (0 -
 IntKind.i64.wrap
 ((if
 IntKind.i64.wrap (0 - a1.2) >
 if a1.2>if IntKind.i64.wrap (0 - a1.1)>a1.1 then IntKind.i64.wrap (0 - a1.1) else a1.1 then a1.2
 else if IntKind.i64.wrap (0 - a1.1)>a1.1 then IntKind.i64.wrap (0 - a1.1) else a1.1 then
 IntKind.i64.wrap (0 - a1.2)
 else
 if a1.2>if IntKind.i64.wrap (0 - a1.1)>a1.1 then IntKind.i64.wrap (0 - a1.1) else a1.1 then a1.2
 else if IntKind.i64.wrap (0 - a1.1)>a1.1 then IntKind.i64.wrap (0 - a1.1) else a1.1) -
 1))
 else a0.1,
 0)
 else
 bif decide (a0.2>0) then
 some
 (0,
 if
 IntKind.i64.wrap
 ((if
 IntKind.i64.wrap (0 - a1.2) >
 if a1.2>if IntKind.i64.wrap (0 - a1.1)>a1.1 then IntKind.i64.wrap (0 - a1.1) else a1.1 then a1.2
 else if IntKind.i64.wrap (0 - a1.1)>a1.1 then IntKind.i64.wrap (0 - a1.1) else a1.1 then
 IntKind.i64.wrap (0 - a1.2)
 else
 if a1.2>if IntKind.i64.wrap (0 - a1.1)>a1.1 then IntKind.i64.wrap (0 - a1.1) else a1.1 then a1.2
 else if IntKind.i64.wrap (0 - a1.1)>a1.1 then IntKind.i64.wrap (0 - a1.1) else a1.1) -
 1) <
 a0.2 then
 IntKind.i64.wrap
 ((if
 IntKind.i64.wrap (0 - a1.2) >
 if a1.2>if IntKind.i64.wrap (0 - a1.1)>a1.1 then IntKind.i64.wrap (0 - a1.1) else a1.1 then a1.2
 else if IntKind.i64.wrap (0 - a1.1)>a1.1 then IntKind.i64.wrap (0 - a1.1) else a1.1 then
 IntKind.i64.wrap (0 - a1.2)
 else
 if a1.2>if IntKind.i64.wrap (0 - a1.1)>a1.1 then IntKind.i64.wrap (0 - a1.1) else a1.1 then a1.2
 else if IntKind.i64.wrap (0 - a1.1)>a1.1 then IntKind.i64.wrap (0 - a1.1) else a1.1) -
 1)
 else a0.2)
 else some (0,0)
def ZFm (x:I×(I×Unit)):Option I:=Zyp x.1 x.2.1
end
section
open Go.Proofs Go.Proofs.YtbdcblpjemmipaaGreat
def Zyn (a0:I) (a1:Int):Option Bool:=
 bif decide (a1≥a0.1) then some (decide (a1≤a0.2)) else some false
def Zx3 (x:I×(Int×Unit)):Option Bool:=Zyn x.1 x.2.1
end
section
open Go.Proofs Go.Proofs.YtbdcblpjemmipaaGreat
def ZA2:List Sh:=[.dat tI,.dat tI]
def ZE8:List Con:=[]
def Zqh (a0 a1:I):Option I:=
 bif a1.1 !=a1.2 then some (a0.1,a0.2)
 else
 bif a0.1==a1.1 then some (IntKind.i64.wrap (a0.1+1),a0.2)
 else bif a0.2==a1.1 then some (a0.1,IntKind.i64.wrap (a0.2 - 1)) else some (a0.1,a0.2)
theorem ZO0 (a0 a1:I):evGX (cxU ZE8 [] 40 1048576) keeps 8 202 ZA2 (.dat tI) ((a0,a1,()):(I×(I×Unit)))=Zqh a0 a1:=by kernel_rfl
def Zp8 (x:I×(I×Unit)):Option I:=Zqh x.1 x.2.1
def ZBe:List AV→Prog AV:=conP true ZA2 (.dat tI) Zp8
theorem ZPk:Zd Tryz.prog 202 ZBe:=Zc (calU ZE8 [] 40 1048576 8 202) true (by rfl) (by rfl) (fun x r e=>(Zg _ _ _ _ _ _ _).trans ((ZO0 x.1 x.2.1).trans e)) (.inl rfl)
end
section
open Go.Proofs Go.Proofs.YtbdcblpjemmipaaGreat
def ZC8:List Sh:=[.dat (.int .i64),.dat tI,.dat tI]
def ZH4:List Con:=[⟨174,ZnJ,Ztg⟩,⟨202,ZBe,ZPk⟩,⟨110,VA,Zau⟩,⟨153,Yb,VX⟩]
def ZsF (a0:Int) (a1 a2:I):Option (I×(I×Unit)):=
 bif a0==1 then
 bif decide (a1.1>a1.2) then some ((1,0),(1,0),PUnit.unit)
 else
 bif decide (a2.1>a2.2) then some ((1,0),(1,0),PUnit.unit)
 else
 bif decide (a1.1>if IntKind.i64.wrap (a2.2 - 1)<a1.2 then IntKind.i64.wrap (a2.2 - 1) else a1.2) then some ((1,0),(1,0),PUnit.unit)
 else
 bif decide ((if IntKind.i64.wrap (a1.1+1)>a2.1 then IntKind.i64.wrap (a1.1+1) else a2.1)>a2.2) then some ((1,0),(1,0),PUnit.unit)
 else
 some
 ((a1.1,if IntKind.i64.wrap (a2.2 - 1)<a1.2 then IntKind.i64.wrap (a2.2 - 1) else a1.2),
 (if IntKind.i64.wrap (a1.1+1)>a2.1 then IntKind.i64.wrap (a1.1+1) else a2.1,a2.2),PUnit.unit)
 else
 bif a0==2 then
 bif decide (a1.1>a1.2) then some ((1,0),(1,0),PUnit.unit)
 else
 bif decide (a2.1>a2.2) then some ((1,0),(1,0),PUnit.unit)
 else
 bif decide (a1.1>if a2.2<a1.2 then a2.2 else a1.2) then some ((1,0),(1,0),PUnit.unit)
 else
 bif decide ((if a1.1>a2.1 then a1.1 else a2.1)>a2.2) then some ((1,0),(1,0),PUnit.unit)
 else some ((a1.1,if a2.2<a1.2 then a2.2 else a1.2),(if a1.1>a2.1 then a1.1 else a2.1,a2.2),PUnit.unit)
 else
 bif a0==5 then
 bif decide (a1.1>a1.2) then some ((1,0),(1,0),PUnit.unit)
 else
 bif decide (a2.1>a2.2) then some ((1,0),(1,0),PUnit.unit)
 else
 bif decide ((if a2.1>a1.1 then a2.1 else a1.1)>a1.2) then some ((1,0),(1,0),PUnit.unit)
 else
 bif decide (a2.1>if a1.2<a2.2 then a1.2 else a2.2) then some ((1,0),(1,0),PUnit.unit)
 else some ((if a2.1>a1.1 then a2.1 else a1.1,a1.2),(a2.1,if a1.2<a2.2 then a1.2 else a2.2),PUnit.unit)
 else
 bif a0==6 then
 bif decide (a1.1>a1.2) then some ((1,0),(1,0),PUnit.unit)
 else
 bif decide (a2.1>a2.2) then some ((1,0),(1,0),PUnit.unit)
 else
 bif decide ((if IntKind.i64.wrap (a2.1+1)>a1.1 then IntKind.i64.wrap (a2.1+1) else a1.1)>a1.2) then some ((1,0),(1,0),PUnit.unit)
 else
 bif decide (a2.1>if IntKind.i64.wrap (a1.2 - 1)<a2.2 then IntKind.i64.wrap (a1.2 - 1) else a2.2) then some ((1,0),(1,0),PUnit.unit)
 else
 some
 ((if IntKind.i64.wrap (a2.1+1)>a1.1 then IntKind.i64.wrap (a2.1+1) else a1.1,a1.2),
 (a2.1,if IntKind.i64.wrap (a1.2 - 1)<a2.2 then IntKind.i64.wrap (a1.2 - 1) else a2.2),PUnit.unit)
 else
 bif a0==3 then
 optC (Zz (a1,a2,())) none fun d4=>
 bif decide (a1.1>a1.2) then some ((1,0),(1,0),PUnit.unit)
 else
 bif decide (a2.1>a2.2) then some ((1,0),(1,0),PUnit.unit)
 else
 bif decide (d4.1>d4.2) then some ((1,0),(1,0),PUnit.unit)
 else bif decide (d4.1>d4.2) then some ((1,0),(1,0),PUnit.unit) else some ((d4.1,d4.2),(d4.1,d4.2),PUnit.unit)
 else
 bif a0==4 then
 optC (Zp8 (a1,a2,())) none fun d4=>
 optC (Zp8 (a2,a1,())) none fun d5=>
 bif decide (a1.1>a1.2) then some ((1,0),(1,0),PUnit.unit)
 else
 bif decide (a2.1>a2.2) then some ((1,0),(1,0),PUnit.unit)
 else
 bif decide (d4.1>d4.2) then some ((1,0),(1,0),PUnit.unit)
 else bif decide (d5.1>d5.2) then some ((1,0),(1,0),PUnit.unit) else some ((d4.1,d4.2),(d5.1,d5.2),PUnit.unit)
 else some ((1,0),(1,0),PUnit.unit)
theorem ZQf (a0:Int) (a1 a2:I):evGX (cxU ZH4 [] 40 1048576) keeps 8 179 ZC8 (.tup [.dat tI,.dat tI]) ((a0,a1,a2,()):(Int×(I×(I×Unit))))=ZsF a0 a1 a2:=by kernel_rfl
def ZP (x:(Int×(I×(I×Unit)))):Option (I×(I×Unit)):=ZsF x.1 x.2.1 x.2.2.1
def ZDv:List AV→Prog AV:=conP true ZC8 (.tup [.dat tI,.dat tI]) ZP
theorem ZQO:Zd Tryz.prog 179 ZDv:=Zc (calU ZH4 [] 40 1048576 8 179) true (by rfl) (by rfl) (fun x r e=>(Zg _ _ _ _ _ _ _).trans ((ZQf x.1 x.2.1 x.2.2.1).trans e)) (.inl rfl)
end
section
open Go.Proofs Go.Proofs.YtbdcblpjemmipaaGreat
def Zvp (a0 a1:Int):Option I:=
 bif decide (a0>a1) then some (1,0) else some (a0,a1)
def Z1 (x:Int×(Int×Unit)):Option I:=Zvp x.1 x.2.1
end
section
open Go.Proofs Go.Proofs.YtbdcblpjemmipaaGreat
def Zvo (a0 a1:Int):Option (I×(Bool×Unit)):=
 optC (Z1 (if -2147483648>a0 then -2147483648 else a0,if 2147483647<a1 then 2147483647 else a1,())) none fun d3=>
 bif decide (a0 < -2147483648) then some ((d3.1,d3.2),true,PUnit.unit) else some ((d3.1,d3.2),decide (a1>2147483647),PUnit.unit)
def ZbE (x:Int×(Int×Unit)):Option (I×(Bool×Unit)):=Zvo x.1 x.2.1
end
section
open Go.Proofs Go.Proofs.YtbdcblpjemmipaaGreat
abbrev Yg:=(Int×Int×Int×(List Int))
abbrev ZbM:=(Int×Int)
def Zo6 (s9 s10 s11:Int) (b0:List Int):Option ((Int×Int×Int×(List Int))⊕(Int×Int)):=
 bif decide (s11<4) then
 bif decide (0≤s11) then
 optC b0[s11.toNat]? none fun d6=>
 optC b0[s11.toNat]? none fun d7=>
 bif decide (0≤s11) then
 optC b0[s11.toNat]? none fun d8=>
 optC b0[s11.toNat]? none fun d9=>some (Sum.inl (if d7<s9 then d7 else s9,if d9>s10 then d9 else s10,IntKind.i64.wrap (s11+1),b0))
 else none
 else none
 else some (Sum.inr (s9,s10))
def Kh:Yg→Option (Yg⊕ZbM):=fun (a,b,c,d)=>Zo6 a b c d
def Zaq (x:Yg):Option ZbM:=iterO Kh Zj x
def Zi5 (a0 a1:I) (a2:Bool):Option (Int×(Int×Unit)):=
 bif a2 then
 bif decide (a1.1=0) then none
 else
 bif decide (a1.2=0) then none
 else
 bif decide (a1.1=0) then none
 else
 bif decide (a1.2=0) then none
 else
 optC
 (Zaq
 (IntKind.i64.wrap (Int.tdiv a0.1 a1.1),IntKind.i64.wrap (Int.tdiv a0.1 a1.1),1,
 [IntKind.i64.wrap (Int.tdiv a0.1 a1.1),IntKind.i64.wrap (Int.tdiv a0.1 a1.2),IntKind.i64.wrap (Int.tdiv a0.2 a1.1),
 IntKind.i64.wrap (Int.tdiv a0.2 a1.2)]))
 none fun d5=>some (d5.1,d5.2,PUnit.unit)
 else
 optC
 (Zaq
 (IntKind.i64.wrap (a0.1*a1.1),IntKind.i64.wrap (a0.1*a1.1),1,
 [IntKind.i64.wrap (a0.1*a1.1),IntKind.i64.wrap (a0.1*a1.2),IntKind.i64.wrap (a0.2*a1.1),IntKind.i64.wrap (a0.2*a1.2)]))
 none fun d5=>some (d5.1,d5.2,PUnit.unit)
def ZiM (x:(I×(I×(Bool×Unit)))):Option (Int×(Int×Unit)):=Zi5 x.1 x.2.1 x.2.2.1
end
section
open Go.Proofs Go.Proofs.YtbdcblpjemmipaaGreat
def Zvn (a0 a1:I):Option I:=
 optC (Z1 (if a1.1>a0.1 then a1.1 else a0.1,if a1.2<a0.2 then a1.2 else a0.2,())) none fun d3=>some (d3.1,d3.2)
def ZU (x:I×(I×Unit)):Option I:=Zvn x.1 x.2.1
end
section
open Go.Proofs Go.Proofs.YtbdcblpjemmipaaGreat
def Zyo (a0 a1:I):Option (I×(Bool×Unit)):=
 optC (ZU (a1,(1,2147483647),())) none fun d3=>
 bif !decide (d3.1>d3.2) then
 optC (ZiM (a0,d3,true,())) none fun d4=>
 optC (ZbE (d4.1,d4.2.1,())) none fun d5=>
 optC (ZU (a1,(-2147483648,-1),())) none fun d6=>
 bif !decide (d6.1>d6.2) then
 optC (ZiM (a0,d6,true,())) none fun d7=>
 optC (ZbE (d7.1,d7.2.1,())) none fun d8=>
 optC (ZD (d5.1,d8.1,())) none fun d9=>
 bif d5.2.1 then some ((d9.1,d9.2),true,PUnit.unit) else some ((d9.1,d9.2),d8.2.1,PUnit.unit)
 else some ((d5.1.1,d5.1.2),d5.2.1,PUnit.unit)
 else
 optC (ZU (a1,(-2147483648,-1),())) none fun d4=>
 bif !decide (d4.1>d4.2) then
 optC (ZiM (a0,d4,true,())) none fun d5=>
 optC (ZbE (d5.1,d5.2.1,())) none fun d6=>some ((d6.1.1,d6.1.2),d6.2.1,PUnit.unit)
 else some ((1,0),false,PUnit.unit)
def ZFl (x:I×(I×Unit)):Option (I×(Bool×Unit)):=Zyo x.1 x.2.1
end
section
open Go.Proofs Go.Proofs.YtbdcblpjemmipaaGreat
def ZBp (a0:Int) (a1 a2:I):Option (I×(Bool×(Bool×Unit))):=
 bif decide (a1.1>a1.2) then some ((1,0),false,false,PUnit.unit)
 else
 bif decide (a2.1>a2.2) then some ((1,0),false,false,PUnit.unit)
 else
 bif a0==1 then
 optC (ZbE (IntKind.i64.wrap (a1.1+a2.1),IntKind.i64.wrap (a1.2+a2.2),())) none fun d4=>
 some ((d4.1.1,d4.1.2),d4.2.1,false,PUnit.unit)
 else
 bif a0==2 then
 optC (ZbE (IntKind.i64.wrap (a1.1 - a2.2),IntKind.i64.wrap (a1.2 - a2.1),())) none fun d4=>
 some ((d4.1.1,d4.1.2),d4.2.1,false,PUnit.unit)
 else
 bif a0==3 then
 optC
 (ZbE
 (if
 IntKind.i64.wrap (a1.2*a2.2) <
 if
 IntKind.i64.wrap (a1.2*a2.1) <
 if IntKind.i64.wrap (a1.1*a2.2)<IntKind.i64.wrap (a1.1*a2.1) then IntKind.i64.wrap (a1.1*a2.2) else IntKind.i64.wrap (a1.1*a2.1) then
 IntKind.i64.wrap (a1.2*a2.1)
 else if IntKind.i64.wrap (a1.1*a2.2)<IntKind.i64.wrap (a1.1*a2.1) then IntKind.i64.wrap (a1.1*a2.2) else IntKind.i64.wrap (a1.1*a2.1) then
 IntKind.i64.wrap (a1.2*a2.2)
 else
 if
 IntKind.i64.wrap (a1.2*a2.1) <
 if IntKind.i64.wrap (a1.1*a2.2)<IntKind.i64.wrap (a1.1*a2.1) then IntKind.i64.wrap (a1.1*a2.2) else IntKind.i64.wrap (a1.1*a2.1) then
 IntKind.i64.wrap (a1.2*a2.1)
 else if IntKind.i64.wrap (a1.1*a2.2)<IntKind.i64.wrap (a1.1*a2.1) then IntKind.i64.wrap (a1.1*a2.2) else IntKind.i64.wrap (a1.1*a2.1),
 if
 IntKind.i64.wrap (a1.2*a2.2) >
 if
 IntKind.i64.wrap (a1.2*a2.1) >
 if IntKind.i64.wrap (a1.1*a2.2)>IntKind.i64.wrap (a1.1*a2.1) then IntKind.i64.wrap (a1.1*a2.2) else IntKind.i64.wrap (a1.1*a2.1) then
 IntKind.i64.wrap (a1.2*a2.1)
 else if IntKind.i64.wrap (a1.1*a2.2)>IntKind.i64.wrap (a1.1*a2.1) then IntKind.i64.wrap (a1.1*a2.2) else IntKind.i64.wrap (a1.1*a2.1) then
 IntKind.i64.wrap (a1.2*a2.2)
 else
 if
 IntKind.i64.wrap (a1.2*a2.1) >
 if IntKind.i64.wrap (a1.1*a2.2)>IntKind.i64.wrap (a1.1*a2.1) then IntKind.i64.wrap (a1.1*a2.2) else IntKind.i64.wrap (a1.1*a2.1) then
 IntKind.i64.wrap (a1.2*a2.1)
 else if IntKind.i64.wrap (a1.1*a2.2)>IntKind.i64.wrap (a1.1*a2.1) then IntKind.i64.wrap (a1.1*a2.2) else IntKind.i64.wrap (a1.1*a2.1),
 ()))
 none fun d4=>some ((d4.1.1,d4.1.2),d4.2.1,false,PUnit.unit)
 else
 bif a0==4 then
 optC (ZFl (a1,a2,())) none fun d4=>
 optC (Zx3 (a2,0,())) none fun d5=>some ((d4.1.1,d4.1.2),d4.2.1,d5,PUnit.unit)
 else
 bif a0==5 then
 optC (ZFm (a1,a2,())) none fun d4=>optC (Zx3 (a2,0,())) none fun d5=>some ((d4.1,d4.2),false,d5,PUnit.unit)
 else some ((1,0),false,false,PUnit.unit)
def ZJk (x:(Int×(I×(I×Unit)))):Option (I×(Bool×(Bool×Unit))):=ZBp x.1 x.2.1 x.2.2.1
end
section
open Go.Proofs Go.Proofs.YtbdcblpjemmipaaGreat
def ZsL (a0 a1:I):Option I:=
 bif a1.1 !=a1.2 then some (a0.1,a0.2)
 else
 bif a1.1==a0.1 then
 bif a1.1==a0.2 then optC (Z1 (IntKind.i64.wrap (a0.1+1),IntKind.i64.wrap (a0.2 - 1),())) none fun d3=>some (d3.1,d3.2)
 else optC (Z1 (IntKind.i64.wrap (a0.1+1),a0.2,())) none fun d3=>some (d3.1,d3.2)
 else
 bif a1.1==a0.2 then optC (Z1 (a0.1,IntKind.i64.wrap (a0.2 - 1),())) none fun d3=>some (d3.1,d3.2)
 else optC (Z1 (a0.1,a0.2,())) none fun d3=>some (d3.1,d3.2)
def ZrL (x:I×(I×Unit)):Option I:=ZsL x.1 x.2.1
end
section
open Go.Proofs Go.Proofs.YtbdcblpjemmipaaGreat
def Zqn (a0:Int) (a1 a2:I):Option (I×(I×Unit)):=
 bif decide (a1.1>a1.2) then some ((1,0),(1,0),PUnit.unit)
 else
 bif decide (a2.1>a2.2) then some ((1,0),(1,0),PUnit.unit)
 else
 bif a0==1 then
 optC (Z1 (a1.1,if IntKind.i64.wrap (a2.2 - 1)<a1.2 then IntKind.i64.wrap (a2.2 - 1) else a1.2,())) none fun d4=>
 optC (Z1 (if IntKind.i64.wrap (a1.1+1)>a2.1 then IntKind.i64.wrap (a1.1+1) else a2.1,a2.2,())) none fun d5=>
 bif decide (d4.1>d4.2) then some ((1,0),(1,0),PUnit.unit)
 else bif decide (d5.1>d5.2) then some ((1,0),(1,0),PUnit.unit) else some ((d4.1,d4.2),(d5.1,d5.2),PUnit.unit)
 else
 bif a0==2 then
 optC (Z1 (a1.1,if a2.2<a1.2 then a2.2 else a1.2,())) none fun d4=>
 optC (Z1 (if a1.1>a2.1 then a1.1 else a2.1,a2.2,())) none fun d5=>
 bif decide (d4.1>d4.2) then some ((1,0),(1,0),PUnit.unit)
 else bif decide (d5.1>d5.2) then some ((1,0),(1,0),PUnit.unit) else some ((d4.1,d4.2),(d5.1,d5.2),PUnit.unit)
 else
 bif a0==6 then
 optC (Z1 (if IntKind.i64.wrap (a2.1+1)>a1.1 then IntKind.i64.wrap (a2.1+1) else a1.1,a1.2,())) none fun d4=>
 optC (Z1 (a2.1,if IntKind.i64.wrap (a1.2 - 1)<a2.2 then IntKind.i64.wrap (a1.2 - 1) else a2.2,())) none fun d5=>
 bif decide (d4.1>d4.2) then some ((1,0),(1,0),PUnit.unit)
 else bif decide (d5.1>d5.2) then some ((1,0),(1,0),PUnit.unit) else some ((d4.1,d4.2),(d5.1,d5.2),PUnit.unit)
 else
 bif a0==5 then
 optC (Z1 (if a2.1>a1.1 then a2.1 else a1.1,a1.2,())) none fun d4=>
 optC (Z1 (a2.1,if a1.2<a2.2 then a1.2 else a2.2,())) none fun d5=>
 bif decide (d4.1>d4.2) then some ((1,0),(1,0),PUnit.unit)
 else bif decide (d5.1>d5.2) then some ((1,0),(1,0),PUnit.unit) else some ((d4.1,d4.2),(d5.1,d5.2),PUnit.unit)
 else
 bif a0==3 then
 optC (ZU (a1,a2,())) none fun d4=>
 bif decide (d4.1>d4.2) then some ((1,0),(1,0),PUnit.unit)
 else bif decide (d4.1>d4.2) then some ((1,0),(1,0),PUnit.unit) else some ((d4.1,d4.2),(d4.1,d4.2),PUnit.unit)
 else
 bif a0==4 then
 optC (ZrL (a1,a2,())) none fun d4=>
 optC (ZrL (a2,a1,())) none fun d5=>
 bif decide (d4.1>d4.2) then some ((1,0),(1,0),PUnit.unit)
 else bif decide (d5.1>d5.2) then some ((1,0),(1,0),PUnit.unit) else some ((d4.1,d4.2),(d5.1,d5.2),PUnit.unit)
 else some ((1,0),(1,0),PUnit.unit)
def Zp9 (x:(Int×(I×(I×Unit)))):Option (I×(I×Unit)):=Zqn x.1 x.2.1 x.2.2.1
end
section
open Go.Proofs Go.Proofs.YtbdcblpjemmipaaGreat
def ZFH (a0 a1:I):Option Bool:=
 bif decide (a0.1>a0.2) then some true else bif decide (a0.1≥a1.1) then some (decide (a0.2≤a1.2)) else some false
def Hq (x:I×(I×Unit)):Option Bool:=ZFH x.1 x.2.1
end
theorem Qk {σ α Y:Type} {f:Nat→σ→α→Option (σ⊕Y)} {fin:σ→Option Y} {i:Nat} {d:α} {r:List α} {s s':σ} (h:f i s d=some (.inl s')):Zl f fin i (d::r) s=Zl f fin (i+1) r s':=by
 rw [Zl,h]
theorem ZLf {α:Type} {p:Prop} [Decidable p] (h:p) (a b:α):(bif decide p then a else b)=a:=by rw [decide_eq_true h];rfl
theorem Zj7 (x y:I):ZBo x y=some (leqB x y):=by
 unfold ZBo leqB empB
 cases decide (x.1>x.2)
 ·cases decide (x.1≥y.1)<;>rfl
 ·rfl
theorem Zkz (x y:I):ZFH x y=some (leqB x y):=Zj7 x y
theorem ZbS (x y:I):Zyk x y=some (iMeet x y):=by
 unfold Zyk iMeet empB
 simp only [cond_eq_ite,Zft,Zfu,nn]
 (repeat' split)<;>simp_all
theorem Zvw (a b:Int):Zvp a b=some (iSpan a b):=by
 unfold Zvp iSpan
 simp only [cond_eq_ite,decide_eq_true_eq,nn]
 split<;>rfl
theorem Zfg (x y:I):Zvn x y=some (mSpan x y):=by
 unfold Zvn Z1 mSpan
 simp only [Zvw,Zb,Zft,Zfu]
theorem VW (x y:I):Zvm x y=some (rJoin x y):=by
 unfold Zvm rJoin empB
 simp only [cond_eq_ite,Zft,Zfu]
 (repeat' split)<;>simp_all
theorem ZT7 (b0 b01:Int) (L:List I):∀ (l:List I) (i:Nat) (a:I),Zl (fun i s d=>W4 b0 b01 L i s.1 s.2 d) (fun s=>Zmc b0 b01 L s.1 s.2) i l a =
  some (b0,b01,(l.foldl (fun a d=>if empB d then a else if empB a then d else (mn a.1 d.1,mx a.2 d.2)) a).1,(l.foldl (fun a d=>if empB d then a else if empB a then d else (mn a.1 d.1,mx a.2 d.2)) a).2)
 | [],i,a=>rfl
 | d::r,i,a=>by
  have h:W4 b0 b01 L i a.1 a.2 d=some (.inl (if empB d then a else if empB a then d else (mn a.1 d.1,mx a.2 d.2))):=by
   unfold W4 empB
   simp only [cond_eq_ite,Zft,Zfu]
   (repeat' split)<;>simp_all
  rw [Zl]
  simp only [h]
  exact ZT7 b0 b01 L r (i+1) _
theorem ZXM (l:List I) (hl:l.length<9223372036854775807):ZsE l=some (l.foldl (fun a d=>if empB d then a else if empB a then d else (mn a.1 d.1,mx a.2 d.2)) nn):=by
 unfold ZsE
 have:=ZIG 0 0 l nn hl
 have e:Zdq (l,(l.length:Int),0,0,0,1,0)=_:=this
 rw [e]
 unfold Zmt
 rw [ZT7 0 0 l l 0 nn]
 rfl
theorem ZbF (x y:I):ZsE [x,y]=some (iJoin x y):=by
 rw [ZXM [x,y] (by simp)]
 simp only [List.foldl_cons,List.foldl_nil]
 have hn:empB nn=true:=rfl
 unfold iJoin
 cases hx:empB x<;>cases hy:empB y<;>simp [hn,hx,hy]
theorem ZMI (n:Int):Zyl [n]=some (fitB n):=by
 unfold Zyl
 have e:Zek ([n],1,0)=_:=ZKC [n] () (by simp)
 have e2:(([n].length:Nat):Int)=1:=rfl
 rw [e2,e]
 unfold Zok fitB
 simp only [Zl,Zg0,ZnO]
 by_cases h1:n < -2147483648
 ·rw [decide_eq_true h1,decide_eq_false (show ¬ n≥-2147483648 by omega)];rfl
 ·by_cases h2:n>2147483647
  ·rw [decide_eq_false h1,decide_eq_true h2,decide_eq_true (show n≥-2147483648 by omega),decide_eq_false (show ¬ n≤2147483647 by omega)];rfl
  ·rw [decide_eq_false h1,decide_eq_false h2,decide_eq_true (show n≥-2147483648 by omega),decide_eq_true (show n≤2147483647 by omega)];rfl
theorem ZYR (n:Int) (h:fitB n=true):ZFE [n]=some (n,n):=by
 unfold ZFE
 have e:ZgO ([n],(([n]:List Int).length:Int),0,0,0,1,0)=_:=ZNX 0 0 [n] nn (by simp)
 rw [e]
 unfold ZqT
 simp only [Zl,Zkl,ZqH,Zkb,ZF,ZMI,h,Zb,cond_true,ZbF]
 have:iJoin (nn.1,nn.2) (n,n)=(n,n):=Zrf (Int.le_refl n)
 rw [this]
theorem wr2 {a b:Int} (ha:a.natAbs≤2147483648) (hb:b.natAbs≤2147483648):IntKind.i64.wrap (a+b)=a+b∧IntKind.i64.wrap (a - b)=a - b∧IntKind.i64.wrap (a*b)=a*b∧IntKind.i64.wrap (a.tdiv b)=a.tdiv b:=
 ⟨wr (by omega),wr (by omega),wr (Z1u ha hb),wr (Nat.le_trans (Z07 ha) (by decide))⟩
theorem ZON (x y:I) (hx:isB x=true) (hy:isB y=true):Znn x y=some ((quoV x y).1,(quoV x y).2,()):=by
 obtain ⟨x1,x2⟩:=V7 hx
 obtain ⟨y1,y2⟩:=V7 hy
 unfold Znn
 have e:Ww (false,(([(1,2147483647),(-2147483648,-1)]:List I).length:Int),0,x.1,x.2,y.1,y.2,0,0,1,0,[(1,2147483647),(-2147483648,-1)])=_:=Zz8 x.1 x.2 y.1 y.2 0 0 [(1,2147483647),(-2147483648,-1)] (false,1,0) (by simp)
 rw [e]
 unfold Zfv
 have one:∀ (p:I) (i:Nat) (L:List I) (o:Bool) (v:I),(∀ n,p.1≤n→n≤p.2→n≠0)→p.1.natAbs≤2147483648→p.2.natAbs≤2147483648→JW x.1 x.2 y.1 y.2 0 0 L i o v.1 v.2 p =
   some (.inl (if empB (iMeet y p) then (o,v.1,v.2) else (o || !leqB (KP x (iMeet y p)) aa,(iJoin v (iMeet (KP x (iMeet y p)) aa)).1,(iJoin v (iMeet (KP x (iMeet y p)) aa)).2))):=by
  intro p i L o v hp p1 p2
  unfold JW
  simp only [Zz,ZbS,Zb]
  have hm:(iMeet ((y.1,y.2):I) p)=iMeet y p:=rfl
  rw [hm]
  cases he:empB (iMeet y p)
  ·have h0:=ZL he
   have hin:p.1≤(iMeet y p).1∧(iMeet y p).2≤p.2∧y.1≤(iMeet y p).1∧(iMeet y p).2≤y.2:=by
    unfold iMeet at he ⊢
    (repeat' split at he)<;>first | (simp_all [empB,nn];done) | skip
    rename_i k1 k2 k3
    rw [if_neg k1,if_neg k2,if_neg k3]
    unfold mx mn
    refine ⟨?_,?_,?_,?_⟩<;>simp only<;>split<;>omega
   generalize iMeet y p=m at *
   have m1:m.1≠0:=hp _ (by omega) (by omega)
   have m2:m.2≠0:=hp _ (by omega) (by omega)
   have a1:m.1.natAbs≤2147483648:=by omega
   have a2:m.2.natAbs≤2147483648:=by omega
   have w1:=(wr2 x1 a1).2.2.2
   have w2:=(wr2 x1 a2).2.2.2
   have w3:=(wr2 x2 a1).2.2.2
   have w4:=(wr2 x2 a2).2.2.2
   have h1:¬ m.1>m.2:=by omega
   simp only [decide_eq_false h1,decide_eq_false m1,decide_eq_false m2,Bool.not_false,cond_true,cond_false,w1,w2,w3,w4,Zft,Zfu,ZF,Q0,ZbF,Zj7,Zb]
   rw [show ((-2147483648,2147483647):I)=aa from rfl,show (mn (mn (mn (x.1.tdiv m.1) (x.1.tdiv m.2)) (x.2.tdiv m.1)) (x.2.tdiv m.2),mx (mx (mx (x.1.tdiv m.1) (x.1.tdiv m.2)) (x.2.tdiv m.1)) (x.2.tdiv m.2))=KP x m from rfl]
   cases o<;>rfl
  ·have h1:(iMeet y p).1>(iMeet y p).2:=ZyO.1 he
   rw [decide_eq_true h1]
   rfl
 have o1:=one pP 0 [pP,pM] false nn (fun n h1 h2=>by unfold pP at h1;simp only at h1;omega) (by decide) (by decide)
 have o2:=fun o v=>one pM 1 [pP,pM] o v (fun n h1 h2=>by unfold pM at h2;simp only at h2;omega) (by decide) (by decide)
 have key:Zl (fun i s d=>JW x.1 x.2 y.1 y.2 0 0 [(1,2147483647),(-2147483648,-1)] i s.1 s.2.1 s.2.2 d) (fun s=>Zfr x.1 x.2 y.1 y.2 0 0 [(1,2147483647),(-2147483648,-1)] s.1 s.2.1 s.2.2) 0 [(1,2147483647),(-2147483648,-1)] (false,1,0)=some ((quoV x y).2,0,0,(quoV x y).1.1,(quoV x y).1.2):=by
  refine (Qk o1).trans ?_
  unfold quoV Zs9
  cases hP:empB (iMeet y pP)
  ·refine (Qk (o2 (!leqB (KP x (iMeet y pP)) aa) (iJoin nn (iMeet (KP x (iMeet y pP)) aa)))).trans ?_
   cases hM:empB (iMeet y pM)<;>rfl
  ·refine (Qk (o2 false nn)).trans ?_
   cases hM:empB (iMeet y pM)<;>rfl
 rw [key]
 rfl
theorem ZWU {a b c d:Int} {n:Nat} (ha:a.natAbs≤n) (hb:b.natAbs≤n) (hc:c.natAbs≤n) (hd:d.natAbs≤n):(mx (mx (mx a b) c) d).natAbs≤n:=by
 unfold mx
 (repeat' split)<;>omega
theorem ZVK (x y:I) (hx:isB x=true) (hy:isB y=true):Zvh x y=some (remI x y):=by
 obtain ⟨x1,x2⟩:=V7 hx
 obtain ⟨y1,y2⟩:=V7 hy
 have w1:IntKind.i64.wrap (0 - y.1) = -y.1:=by rw [wr (by omega)];omega
 have w2:IntKind.i64.wrap (0 - y.2) = -y.2:=by rw [wr (by omega)];omega
 unfold Zvh remI
 simp only [w1,w2,Zfu,Zft]
 have hM:=ZWU (n:=2147483648) (a:=y.2) (b:=-y.2) (c:=y.1) (d:=-y.1) y2 (by omega) y1 (by omega)
 generalize mx (mx (mx y.2 (-y.2)) y.1) (-y.1)=M at *
 have w3:IntKind.i64.wrap (M - 1)=M - 1:=wr (by omega)
 have w4:IntKind.i64.wrap (0 - (M - 1)) = -(M - 1):=by rw [wr (by omega)];omega
 simp only [w3,w4,Zfu,Zft,cond_eq_ite,Bool.and_eq_true,beq_iff_eq,decide_eq_true_eq]
 by_cases h1:y.1=0∧y.2=0
 ·rw [if_pos h1,if_pos h1];rfl
 ·rw [if_neg h1,if_neg h1]
  by_cases h2:x.1<0<;>by_cases h3:x.2>0<;>simp [h2,h3]
theorem ZXP (x y:I) (hx:isB x=true) (hy:isB y=true):Zyp x y=some (remI x y):=by
 obtain ⟨x1,x2⟩:=V7 hx
 obtain ⟨y1,y2⟩:=V7 hy
 have w1:IntKind.i64.wrap (0 - y.1) = -y.1:=by rw [wr (by omega)];omega
 have w2:IntKind.i64.wrap (0 - y.2) = -y.2:=by rw [wr (by omega)];omega
 unfold Zyp remI
 simp only [w1,w2,Zfu,Zft]
 have hM:=ZWU (n:=2147483648) (a:=y.2) (b:=-y.2) (c:=y.1) (d:=-y.1) y2 (by omega) y1 (by omega)
 have hE:mx (mx (mx y.1 (-y.1)) y.2) (-y.2)=mx (mx (mx y.2 (-y.2)) y.1) (-y.1):=by unfold mx;(repeat' split)<;>omega
 rw [hE]
 generalize mx (mx (mx y.2 (-y.2)) y.1) (-y.1)=M at *
 have w3:IntKind.i64.wrap (M - 1)=M - 1:=wr (by omega)
 have w4:IntKind.i64.wrap (0 - (M - 1)) = -(M - 1):=by rw [wr (by omega)];omega
 simp only [w3,w4,Zfu,Zft,cond_eq_ite,Bool.and_eq_true,beq_iff_eq,decide_eq_true_eq]
 by_cases h0:y.1=0<;>by_cases h1:y.2=0<;>by_cases h2:x.1<0<;>by_cases h3:x.2>0<;>simp [h0,h1,h2,h3,nn]
theorem ZYQ (x:I) (n:Int):ZBn x n=some (hasB x n):=by
 unfold ZBn hasB
 cases decide (n≥x.1)<;>rfl
theorem ZXN (x:I) (n:Int):Zyn x n=some (hasB x n):=by
 unfold Zyn hasB
 cases decide (n≥x.1)<;>rfl
theorem ZUi (op:Int) (x y:I) (hx:isB x=true) (hy:isB y=true):ZFD op x y=some ((doI op x y).1,(doI op x y).2.1,(doI op x y).2.2,()):=by
 obtain ⟨x1,x2⟩:=V7 hx
 obtain ⟨y1,y2⟩:=V7 hy
 have a11:=wr2 x1 y1
 have a12:=wr2 x1 y2
 have a21:=wr2 x2 y1
 have a22:=wr2 x2 y2
 unfold ZFD doI
 simp only [a11.1,a11.2.1,a11.2.2.1,a12.1,a12.2.1,a12.2.2.1,a21.1,a21.2.1,a21.2.2.1,a22.1,a22.2.1,a22.2.2.1,Zft,Zfu,Zz,Q0,ZrH,ZA0,ZBX,ZbS,Zj7,ZON x y hx hy,ZVK x y hx hy,ZYQ,Zb]
 rw [show ((-2147483648,2147483647):I)=aa from rfl]
 by_cases h1:x.1>x.2
 ·rw [decide_eq_true h1,show empB x=true from ZyO.2 h1];rfl
 by_cases h2:y.1>y.2
 ·rw [decide_eq_false h1,decide_eq_true h2,show empB x=false from by simp [empB,h1],show empB y=true from ZyO.2 h2];rfl
 rw [decide_eq_false h1,decide_eq_false h2,show empB x=false from by simp [empB,h1],show empB y=false from by simp [empB,h2]]
 simp only [cond_false,Bool.or_self,Bool.false_eq_true,if_false]
 by_cases o1:op=1
 ·subst o1;rfl
 by_cases o2:op=2
 ·subst o2;rfl
 by_cases o3:op=3
 ·subst o3;rfl
 by_cases o4:op=4
 ·subst o4;rfl
 by_cases o5:op=5
 ·subst o5;rfl
 simp only [o1,o2,o3,o4,o5,if_false,beq_eq_false_iff_ne.2 o1,beq_eq_false_iff_ne.2 o2,beq_eq_false_iff_ne.2 o3,beq_eq_false_iff_ne.2 o4,beq_eq_false_iff_ne.2 o5,cond_false]
 rfl
theorem Zvv (a b:Int):Zvo a b=some (clipV a b,clipO a b,()):=by
 unfold Zvo Z1 clipV clipO
 simp only [Zvw,Zb,Zft,Zfu]
 cases decide (a < -2147483648)<;>rfl
theorem ZTz (v0 v1 v2 v3:Int):Zaq (v0,v0,1,[v0,v1,v2,v3])=some (mn (mn (mn v0 v1) v2) v3,mx (mx (mx v0 v1) v2) v3):=by
 unfold Zaq
 refine ZsP 4 Zj _ _ (by decide) ?_
 have go:∀ (n:Nat) (i:Nat) (lo hi d:Int) (X:List Int),X[i]? = some d→i<4→iterO Kh (n+1) (lo,hi,(i:Int),X) =
   iterO Kh n (mn lo d,mx hi d,((i+1:Nat):Int),X):=by
  intro n i lo hi d X hx hi4
  rw [iterO]
  simp only [Kh,Zo6]
  rw [show decide ((i:Int)<4)=true from decide_eq_true (by omega),show decide (0≤(i:Int))=true from decide_eq_true (by omega),Int.toNat_natCast,hx]
  rw [Zm hi4 (by omega)]
  rfl
 have e1:=go 3 1 v0 v0 v1 [v0,v1,v2,v3] rfl (by decide)
 have e2:=go 2 2 (mn v0 v1) (mx v0 v1) v2 [v0,v1,v2,v3] rfl (by decide)
 have e3:=go 1 3 (mn (mn v0 v1) v2) (mx (mx v0 v1) v2) v3 [v0,v1,v2,v3] rfl (by decide)
 exact e1.trans (e2.trans (e3.trans rfl))
theorem ZP4 (x y:I) (x1:x.1.natAbs≤2147483648) (x2:x.2.natAbs≤2147483648) (y1:y.1.natAbs≤2147483648) (y2:y.2.natAbs≤2147483648) (hz:noZ y=true):Zi5 x y true=some ((KP x y).1,(KP x y).2,()):=by
 simp only [noZ,Bool.and_eq_true,Bool.not_eq_true',beq_eq_false_iff_ne] at hz
 have a11:=wr2 x1 y1
 have a12:=wr2 x1 y2
 have a21:=wr2 x2 y1
 have a22:=wr2 x2 y2
 unfold Zi5
 simp only [a11.2.2.2,a12.2.2.2,a21.2.2.2,a22.2.2.2,cond_true,decide_eq_false hz.1,decide_eq_false hz.2,cond_false,ZTz,Zb]
 rfl
theorem ZXO (x y:I) (hx:isB x=true) (hy:isB y=true):Zyo x y=some ((rdivV x y).1,(rdivV x y).2,()):=by
 obtain ⟨x1,x2⟩:=V7 hx
 have cor:∀ p,isB p=true→empB (mSpan y p)=false→noZ (mSpan y p)=true→Zi5 x (mSpan y p) true=some ((KP x (mSpan y p)).1,(KP x (mSpan y p)).2,()):=fun p hp he hz=>by
  obtain ⟨q1,q2⟩:=V7 (Zod hy hp he)
  exact ZP4 x _ x1 x2 q1 q2 hz
 unfold Zyo rdivV ZPa
 simp only [ZU,Zfg,Zb,ZiM]
 rw [show ((1,2147483647):I)=pP from rfl,show ((-2147483648,-1):I)=pM from rfl]
 have hE:∀ z:I,decide (z.1>z.2)=empB z:=fun _=>rfl
 simp only [hE]
 cases hP:empB (mSpan y pP)
 ·simp only [Bool.not_false,cond_true,cor pP rfl hP (ZYM hP),Zb,ZbE,Zvv]
  cases hM:empB (mSpan y pM)
  ·simp only [Bool.not_false,cond_true,cor pM rfl hM (ZRC hM),Zb,Zvv,ZD,VW,Bool.false_eq_true,if_false]
   cases clipO (KP x (mSpan y pP)).1 (KP x (mSpan y pP)).2<;>rfl
  ·rfl
 ·simp only [Bool.not_true,cond_false]
  cases hM:empB (mSpan y pM)
  ·simp only [Bool.not_false,cond_true,cor pM rfl hM (ZRC hM),Zb,ZbE,Zvv,Bool.false_eq_true,if_false,if_true]
   have:rJoin nn (clipV (KP x (mSpan y pM)).1 (KP x (mSpan y pM)).2)=clipV (KP x (mSpan y pM)).1 (KP x (mSpan y pM)).2:=rfl
   rw [this]
   rfl
  ·rfl
theorem ZYS (op:Int) (x y:I) (hx:isB x=true) (hy:isB y=true):ZBp op x y=some ((doI op x y).1,(doI op x y).2.1,(doI op x y).2.2,()):=by
 rw [Z2C]
 obtain ⟨x1,x2⟩:=V7 hx
 obtain ⟨y1,y2⟩:=V7 hy
 have a11:=wr2 x1 y1
 have a12:=wr2 x1 y2
 have a21:=wr2 x2 y1
 have a22:=wr2 x2 y2
 unfold ZBp rdoI
 simp only [a11.1,a11.2.1,a11.2.2.1,a12.1,a12.2.1,a12.2.2.1,a21.1,a21.2.1,a21.2.2.1,a22.1,a22.2.1,a22.2.2.1,Zft,Zfu,ZbE,Zvv,ZFl,Zx3,ZFm,ZXO x y hx hy,ZXP x y hx hy,ZXN,Zb]
 by_cases h1:x.1>x.2
 ·rw [decide_eq_true h1,show empB x=true from ZyO.2 h1];rfl
 by_cases h2:y.1>y.2
 ·rw [decide_eq_false h1,decide_eq_true h2,show empB x=false from by simp [empB,h1],show empB y=true from ZyO.2 h2];rfl
 rw [decide_eq_false h1,decide_eq_false h2,show empB x=false from by simp [empB,h1],show empB y=false from by simp [empB,h2]]
 simp only [cond_false,Bool.or_self,Bool.false_eq_true,if_false]
 by_cases o1:op=1
 ·subst o1;rfl
 by_cases o2:op=2
 ·subst o2;rfl
 by_cases o3:op=3
 ·subst o3;rfl
 by_cases o4:op=4
 ·subst o4;rfl
 by_cases o5:op=5
 ·subst o5;rfl
 simp only [o1,o2,o3,o4,o5,if_false,beq_eq_false_iff_ne.2 o1,beq_eq_false_iff_ne.2 o2,beq_eq_false_iff_ne.2 o3,beq_eq_false_iff_ne.2 o4,beq_eq_false_iff_ne.2 o5,cond_false]
 rfl
def bitV (m:Int):Int:=if 0≤m∧m<31 then ((2 ^ m.toNat:Nat):Int) else 0
theorem Z1A (m:Int) (h:0≤m∧m<31):IntKind.i64.wrap (1*2 ^ Min.min (Int.toNat m) IntKind.i64.bits)=((2 ^ m.toNat:Nat):Int):=by
 obtain ⟨n,rfl⟩:∃ n:Nat,m=n:=⟨m.toNat,by omega⟩
 have hn:n<31:=by omega
 have:((List.range 31).all fun n=>IntKind.i64.wrap (1*2 ^ Min.min (Int.toNat (n:Int)) IntKind.i64.bits)==((2 ^ (n:Int).toNat:Nat):Int))=true:=by kernel_rfl
 exact beq_iff_eq.1 (List.all_eq_true.1 this n (List.mem_range.2 hn))
theorem ZRH (m:Int) (h:0≤m∧m<31):IntKind.i64.wrap (1*2 ^ Min.min (IntKind.u64.wrap m).toNat IntKind.i64.bits)=((2 ^ m.toNat:Nat):Int):=by
 obtain ⟨n,rfl⟩:∃ n:Nat,m=n:=⟨m.toNat,by omega⟩
 have hn:n<31:=by omega
 have:((List.range 31).all fun n=>IntKind.i64.wrap (1*2 ^ Min.min (IntKind.u64.wrap (n:Int)).toNat IntKind.i64.bits)==((2 ^ (n:Int).toNat:Nat):Int))=true:=by kernel_rfl
 exact beq_iff_eq.1 (List.all_eq_true.1 this n (List.mem_range.2 hn))
theorem Zj8 (n:Nat) (h:n<18446744073709551616):(BitVec.ofInt IntKind.i64.bits (n:Int)).toNat=n:=by
 show (BitVec.ofInt 64 (n:Int)).toNat=n
 rw [BitVec.toNat_ofInt];omega
theorem ZN8 (n:Nat) (h:n<9223372036854775808):IntKind.i64.wrap (n:Int)=(n:Int):=Zou (by omega) (by omega)
theorem ZFn {a b:Nat} (ha:a<9223372036854775808) (hb:b<9223372036854775808):IntKind.i64.wrap ((BitVec.ofInt IntKind.i64.bits (a:Int) &&& BitVec.ofInt IntKind.i64.bits (b:Int)).toNat:Int)=((a &&& b:Nat):Int):=by
 rw [BitVec.toNat_and,Zj8 a (by omega),Zj8 b (by omega)]
 exact ZN8 _ (Nat.lt_of_le_of_lt Nat.and_le_left ha)
theorem ZUr {a b:Nat} (ha:a<4611686018427387904) (hb:b<4611686018427387904):IntKind.i64.wrap ((BitVec.ofInt IntKind.i64.bits (a:Int) ||| BitVec.ofInt IntKind.i64.bits (b:Int)).toNat:Int)=((a ||| b:Nat):Int):=by
 rw [BitVec.toNat_or,Zj8 a (by omega),Zj8 b (by omega)]
 refine ZN8 _ (Nat.lt_of_lt_of_le (Nat.or_lt_two_pow (n:=62) ha hb) (by decide))
def tb (s m:Int):Bool:=decide (0≤m)&&decide (m<31)&&s.toNat.testBit m.toNat
theorem Z00 (n k:Nat):(n &&& 2 ^ k !=0)=n.testBit k:=by
 cases h:n.testBit k
 ·have:n &&& 2 ^ k=0:=Nat.eq_of_testBit_eq fun i=>by
   rw [Nat.testBit_and,Nat.testBit_two_pow,Nat.zero_testBit]
   by_cases e:k=i
   ·subst e;rw [h];rfl
   ·simp [e]
  rw [this];rfl
 ·rw [bne_iff_ne]
  intro e
  have:(n &&& 2 ^ k).testBit k=true:=by rw [Nat.testBit_and,h,Nat.testBit_two_pow_self];rfl
  rw [e,Nat.zero_testBit] at this
  cases this
theorem ZNl (m:Int):Zvf [m]=some (bitV m):=by
 unfold Zvf
 have e:ZcA (0,[m],(([m]:List Int).length:Int),0)=_:=ZF7 [m] 0 (by simp)
 rw [e]
 unfold ZkC bitV
 simp only [Zl,ZeK,Zkp]
 by_cases h1:m≥0
 ·by_cases h2:m<31
  ·rw [decide_eq_true h1,decide_eq_true h2,decide_eq_false (show ¬ m<0 by omega),Z1A m ⟨h1,h2⟩,if_pos ⟨h1,h2⟩]
   simp only [cond_true,cond_false]
   have:=ZUr (a:=0) (b:=2 ^ m.toNat) (by decide) (Nat.lt_of_lt_of_le (Nat.pow_lt_pow_right (by decide) (show m.toNat<31 by omega)) (by decide))
   rw [show ((0:Nat):Int)=0 from rfl] at this
   rw [this,Nat.zero_or]
   rfl
  ·rw [decide_eq_true h1,decide_eq_false h2,if_neg (by omega)];rfl
 ·rw [decide_eq_false h1,if_neg (by omega)];rfl
theorem ZFq (m:Int):∃ k:Nat,bitV m=k∧k<2147483648∧∀ n:Nat,(n &&& k !=0)=(decide (0≤m)&&decide (m<31)&&n.testBit m.toNat):=by
 unfold bitV
 by_cases h:0≤m∧m<31
 ·rw [if_pos h]
  refine ⟨2 ^ m.toNat,rfl,Nat.lt_of_lt_of_le (Nat.pow_lt_pow_right (by decide) (show m.toNat<31 by omega)) (by decide),fun n=>?_⟩
  rw [decide_eq_true h.1,decide_eq_true h.2,Z00];rfl
 ·rw [if_neg h]
  refine ⟨0,rfl,by decide,fun n=>?_⟩
  rw [Nat.and_zero]
  by_cases h1:0≤m
  ·rw [decide_eq_true h1,decide_eq_false (show ¬ m<31 by omega)];rfl
  ·rw [decide_eq_false h1];rfl
theorem Zdh (s m:Int) (hs:0≤s∧s<9223372036854775808):Zyj s m=some (tb s m):=by
 obtain ⟨n,rfl⟩:∃ n:Nat,s=n:=⟨s.toNat,by omega⟩
 obtain ⟨k,h1,h2,h3⟩:=ZFq m
 unfold Zyj Zhq tb
 simp only [ZNl,Zb,h1]
 rw [ZFn (by omega) (by omega),Int.toNat_natCast,← h3 n]
 congr 1
 rw [Bool.eq_iff_iff]
 simp only [bne_iff_ne]
 omega
theorem Zs2 (s m:Int) (hs:0≤s∧s<2147483648):Zyq s m=some (tb s m):=by
 obtain ⟨n,rfl⟩:∃ n:Nat,s=n:=⟨s.toNat,by omega⟩
 unfold Zyq tb
 by_cases h1:m≥0
 case neg=>rw [decide_eq_false h1];rfl
 by_cases h2:m≤30
 case neg=>rw [decide_eq_true h1,decide_eq_false h2,decide_eq_false (show ¬ m<31 by omega)];rfl
 obtain ⟨k,rfl⟩:∃ k:Nat,m=k:=⟨m.toNat,by omega⟩
 have hk:k<31:=by omega
 have e1:((List.range 31).all fun k=>decide (IntKind.u64.wrap (k:Int)=(k:Int))&&decide (Min.min k IntKind.i64.bits=k))=true:=by kernel_rfl
 have e2:=List.all_eq_true.1 e1 k (List.mem_range.2 hk)
 simp only [Bool.and_eq_true,decide_eq_true_eq] at e2
 rw [decide_eq_true h1,decide_eq_true h2,e2.1,decide_eq_false (show ¬ (k:Int)<0 by omega),decide_eq_true (show (k:Int)<31 by omega)]
 simp only [cond_true,cond_false,Int.toNat_natCast,e2.2,Bool.true_and]
 have e3:((n:Int).fdiv (2 ^ k))=((n / 2 ^ k:Nat):Int):=by
  rw [show ((2:Int) ^ k)=((2 ^ k:Nat):Int) by push_cast;rfl]
  rw [Int.fdiv_eq_ediv_of_nonneg _ (Int.natCast_nonneg _)]
  exact (Int.natCast_ediv n (2 ^ k)).symm
 have hlt:n / 2 ^ k<2147483648:=Nat.lt_of_le_of_lt (Nat.div_le_self _ _) (by omega)
 have e4:=ZFn (a:=n / 2 ^ k) (b:=1) (by omega) (by decide)
 rw [e3,show ((1:Nat):Int)=1 from rfl] at *
 rw [e4]
 congr 1
 rw [Bool.eq_iff_iff,Nat.and_one_is_mod,Nat.testBit_eq_decide_div_mod_eq]
 simp only [beq_iff_eq,decide_eq_true_eq]
 omega
theorem Zvu (s m:Int) (hs:0≤s∧s<2147483648):Zve s [m]=some (((s.toNat ||| (bitV m).toNat:Nat):Int)):=by
 obtain ⟨n,rfl⟩:∃ n:Nat,s=n:=⟨s.toNat,by omega⟩
 obtain ⟨k,h1,h2,h3⟩:=ZFq m
 unfold Zve Zhq
 simp only [ZNl,Zb,h1,Int.toNat_natCast]
 rw [ZUr (by omega) (by omega)]
theorem ZNk {a b:Nat} (ha:a<9223372036854775808) (hb:b<9223372036854775808):∃ r:Nat,IntKind.i64.wrap ((BitVec.ofInt IntKind.i64.bits (a:Int) &&& ~~~BitVec.ofInt IntKind.i64.bits (b:Int)).toNat:Int)=(r:Int)∧r≤a∧∀ i,r.testBit i=(a.testBit i && !b.testBit i):=by
 refine ⟨(BitVec.ofInt IntKind.i64.bits (a:Int) &&& ~~~BitVec.ofInt IntKind.i64.bits (b:Int)).toNat,ZN8 _ ?_,?_,fun i=>?_⟩
 ·rw [BitVec.toNat_and,Zj8 a (by omega)]
  exact Nat.lt_of_le_of_lt Nat.and_le_left ha
 ·rw [BitVec.toNat_and,Zj8 a (by omega)]
  exact Nat.and_le_left
 ·rw [BitVec.toNat_and,Zj8 a (by omega),Nat.testBit_and,BitVec.toNat_not,Zj8 b (by omega)]
  by_cases hi:i<64
  ·rw [show 2 ^ IntKind.i64.bits - 1 - b=2 ^ 64 - (b+1) from by show 2 ^ 64 - 1 - b=_;omega,Nat.testBit_two_pow_sub_succ (by omega)]
   simp [hi]
  ·have:a.testBit i=false:=Nat.testBit_lt_two_pow (Nat.lt_of_lt_of_le ha (Nat.le_trans (by decide:9223372036854775808≤2 ^ 64) (Nat.pow_le_pow_right (by decide) (by omega))))
   rw [this];rfl
def woI (s m:Int):Int:=IntKind.i64.wrap ((BitVec.ofInt IntKind.i64.bits s &&& ~~~BitVec.ofInt IntKind.i64.bits (bitV m)).toNat:Int)
def wiI (s m:Int):Int:=((s.toNat ||| (bitV m).toNat:Nat):Int)
theorem ZEd (s m:Int):ZoB s [m]=some (woI s m):=by
 unfold ZoB Zhq woI
 simp only [ZNl,Zb]
theorem ZMJ (s m:Int) (hs:0≤s∧s<2147483648) (hm:0≤m∧m<31):Zvq s [m]=some (wiI s m):=by
 obtain ⟨n,rfl⟩:∃ n:Nat,s=n:=⟨s.toNat,by omega⟩
 obtain ⟨k,h1,h2,h3⟩:=ZFq m
 unfold Zvq wiI
 have e:ZcD ((n:Int),[m],0)=_:=ZGd [m] (n:Int) (by simp)
 rw [e]
 unfold ZkJ
 have u0:¬ IntKind.u64.wrap m<0:=by
  have:IntKind.u64.wrap m=m % 18446744073709551616:=by simp [IntKind.wrap,IntKind.signed,IntKind.bits]
  rw [this];omega
 simp only [Zl,ZeP,Zku]
 simp only [List.getElem?_cons_zero,Zb,decide_eq_true hm.1,decide_eq_true (show m≥0 from hm.1),decide_eq_true (show m≤30 by omega),decide_eq_false u0,cond_true,cond_false,ZRH m hm]
 have hb:bitV m=((2 ^ m.toNat:Nat):Int):=by unfold bitV;rw [if_pos hm]
 rw [← hb,h1,ZUr (by omega) (by omega)]
 simp only [Zb,Int.toNat_natCast]
theorem ZP5 (s m:Int) (hm:0≤m∧m<31):ZoE s [m]=some (woI s m):=by
 unfold ZoE woI
 have e:Zar (s,[m],0)=_:=ZAO [m] s (by simp)
 rw [e]
 unfold Zgf
 have u0:¬ IntKind.u64.wrap m<0:=by
  have:IntKind.u64.wrap m=m % 18446744073709551616:=by simp [IntKind.wrap,IntKind.signed,IntKind.bits]
  rw [this];omega
 simp only [Zl,Zcx,Zf8]
 simp only [List.getElem?_cons_zero,Zb,decide_eq_true hm.1,decide_eq_true (show m≥0 from hm.1),decide_eq_true (show m≤30 by omega),decide_eq_false u0,cond_true,cond_false,ZRH m hm]
 have hb:bitV m=((2 ^ m.toNat:Nat):Int):=by unfold bitV;rw [if_pos hm]
 rw [← hb]
def apI (a b:Int):Bool:=a.toNat &&& b.toNat==0
theorem ZP1 (s:Int) (hs:0≤s∧s<9223372036854775808):∀ (k m:Nat) (acc:List Int),m+k=31→acc.length≤m→
  ∃ r,iterO K6 (k+1) (s,(m:Int),acc)=some r∧(r.length=0↔acc.length=0∧∀ i:Nat,m≤i→i<31→tb s (i:Int)=false)
 | 0,m,acc,h,ha=>by
  refine ⟨acc,?_,⟨fun k=>⟨k,fun i h1 h2=>by omega⟩,fun k=>k.1⟩⟩
  rw [iterO]
  simp only [K6,ZkP]
  rw [decide_eq_false (show ¬ (m:Int)<31 by omega)]
  rfl
 | k+1,m,acc,h,ha=>by
  rw [iterO]
  simp only [K6,ZkP]
  rw [decide_eq_true (show (m:Int)<31 by omega),Zm (show m<31 by omega) (by decide)]
  simp only [ZW,Zdh s m hs,Zb,cond_true]
  cases hb:tb s (m:Int)
  ·obtain ⟨r,e,q⟩:=ZP1 s hs k (m+1) acc (by omega) (by omega)
   refine ⟨r,e,q.trans ⟨fun z=>⟨z.1,fun i h1 h2=>?_⟩,fun z=>⟨z.1,fun i h1 h2=>z.2 i (by omega) h2⟩⟩⟩
   by_cases hi:i=m
   ·subst hi;exact hb
   ·exact z.2 i (by omega) h2
  ·obtain ⟨r,e,q⟩:=ZP1 s hs k (m+1) (acc++[(m:Int)]) (by omega) (by simp;omega)
   refine ⟨r,?_,q.trans ⟨fun z=>by simp at z,fun z=>?_⟩⟩
   ·simp only [cond_true]
    rw [decide_eq_true (show (acc.length+[(m:Int)].length+1)*8≤lim by simp only [List.length_singleton];unfold lim;omega)]
    exact e
   ·have:=z.2 m (Nat.le_refl _) (by omega)
    rw [hb] at this;cases this
theorem ZVs {n:Nat} (h:n<2147483648) (hb:∀ i,i<31→n.testBit i=false):n=0:=Nat.eq_of_testBit_eq fun i=>by
 rw [Nat.zero_testBit]
 by_cases hi:i<31
 ·exact hb i hi
 ·exact Nat.testBit_lt_two_pow (Nat.lt_of_lt_of_le h (Nat.le_trans (by decide:2147483648≤2 ^ 31) (Nat.pow_le_pow_right (by decide) (by omega))))
theorem ZKq (a b:Int) (ha:0≤a∧a<2147483648) (hb:0≤b∧b<2147483648):ZsD a b=some (apI a b):=by
 obtain ⟨x,rfl⟩:∃ n:Nat,a=n:=⟨a.toNat,by omega⟩
 obtain ⟨y,rfl⟩:∃ n:Nat,b=n:=⟨b.toNat,by omega⟩
 unfold ZsD apI ZBW ZCG Zl8
 rw [ZFn (by omega) (by omega)]
 have hlt:x &&& y<2147483648:=Nat.lt_of_le_of_lt Nat.and_le_left (by omega)
 obtain ⟨r,e,q⟩:=ZP1 ((x &&& y:Nat):Int) (by omega) 31 0 [] (by decide) (by decide)
 have e2:=ZsP (31+1) Zj _ _ (by decide) e
 have e3:iterO K6 Zj ((((x &&& y:Nat):Int),0,[]):Int×Int×List Int)=some r:=e2
 simp only [e3,Zb,Int.toNat_natCast]
 congr 1
 rw [Bool.eq_iff_iff]
 simp only [beq_iff_eq]
 constructor
 ·intro h
  have:=(q.1 (by omega)).2
  refine ZVs hlt fun i hi=>?_
  have k:=this i (Nat.zero_le _) hi
  unfold tb at k
  rw [decide_eq_true (show (0:Int)≤(i:Int) by omega),decide_eq_true (show (i:Int)<31 by omega)] at k
  simpa using k
 ·intro h
  have:=q.2 ⟨rfl,fun i _ _=>by unfold tb;rw [h];simp⟩
  omega
theorem ZUm (a b:Int) (ha:0≤a∧a<2147483648) (hb:0≤b∧b<2147483648):ZnR a b=some (apI a b):=by
 obtain ⟨x,rfl⟩:∃ n:Nat,a=n:=⟨a.toNat,by omega⟩
 obtain ⟨y,rfl⟩:∃ n:Nat,b=n:=⟨b.toNat,by omega⟩
 have hlt:x &&& y<2147483648:=Nat.lt_of_le_of_lt Nat.and_le_left (by omega)
 unfold ZnR apI
 rw [ZFn (by omega) (by omega)]
 have:=ZFn (a:=x &&& y) (b:=2147483647) (by omega) (by decide)
 rw [show ((2147483647:Nat):Int)=2147483647 from rfl] at this
 rw [this]
 have e:(x &&& y) &&& 2147483647=x &&& y:=by
  rw [show 2147483647=2 ^ 31 - 1 from rfl,Nat.and_two_pow_sub_one_of_lt_two_pow (by omega)]
 rw [e]
 congr 1
 rw [Bool.eq_iff_iff]
 simp only [beq_iff_eq,Int.toNat_natCast]
 omega
def seesB (t:Int) (ar:Bool) (g h:Int) (e:En):Bool:=e.1 !=t&&(e.2.1==ar&&(e.2.2.1==g&&apI e.2.2.2.1 h))
def seenS (p:En→Bool) (v:I) (l:List En):I:=l.foldl (fun v e=>if p e then iJoin v e.2.2.2.2 else v) v
def seenV (l:List En) (t:Int) (ar:Bool) (g h:Int):I:=seenS (seesB t ar g h) nn l
def gainV (l:List En) (t:Int) (ar:Bool) (g h m:Int):I:=seenS (fun e=>seesB t ar g h e&&tb e.2.2.2.1 m) nn l
theorem ZXc (t:Int) (ar:Bool) (g h:Int) (hh:0≤h∧h<2147483648) (b0 b01 b1 b11:Int) (L:List En):∀ (l:List En) (i:Nat) (v:I),(∀ e∈l,entOK e)→
  Zl (fun i s d=>W8 t ar g h b0 b01 b1 b11 L i s.1 s.2 d) (fun s=>Zmh t ar g h b0 b01 b1 b11 L s.1 s.2) i l v=some (b0,b01,b1,b11,(seenS (seesB t ar g h) v l).1,(seenS (seesB t ar g h) v l).2)
 | [],i,v,_=>rfl
 | d::r,i,v,he=>by
  have ed:=he d (by simp)
  have h1:W8 t ar g h b0 b01 b1 b11 L i v.1 v.2 d=some (.inl (if seesB t ar g h d then iJoin v d.2.2.2.2 else v)):=by
   unfold W8 seesB
   simp only [Zfj,ZKq _ _ ed.h hh,ZF,ZbF,Zb]
   cases d.1 !=t<;>cases d.2.1==ar<;>cases d.2.2.1==g<;>cases apI d.2.2.2.1 h<;>rfl
  rw [Zl]
  simp only [h1]
  exact ZXc t ar g h hh b0 b01 b1 b11 L r (i+1) _ fun e k=>he e (List.mem_cons_of_mem _ k)
theorem ZXQ (l:List En) (t:Int) (ar:Bool) (g h:Int) (hh:0≤h∧h<2147483648) (he:∀ e∈l,entOK e) (hl:l.length<9223372036854775807):Zyu l t ar g h=some (seenV l t ar g h):=by
 unfold Zyu
 have e:Zdu (t,ar,g,h,l,(l.length:Int),0,0,0,0,0,1,0)=_:=ZIL t ar g h 0 0 0 0 l nn hl
 rw [e]
 unfold Zmy
 rw [ZXc t ar g h hh 0 0 0 0 l l 0 nn he]
 rfl
theorem ZU1 (t:Int) (ar:Bool) (g h:Int) (hh:0≤h∧h<2147483648) (b0 b01:Int) (L:List En):∀ (l:List En) (i:Nat) (v:I),(∀ e∈l,entOK e)→
  Zl (fun i s d=>Hu t ar g h b0 b01 L i s.1 s.2 d) (fun s=>ZiU t ar g h b0 b01 L s.1 s.2) i l v=some (b0,b01,(seenS (seesB t ar g h) v l).1,(seenS (seesB t ar g h) v l).2)
 | [],i,v,_=>rfl
 | d::r,i,v,he=>by
  have ed:=he d (by simp)
  have ha:=ZUm _ _ ed.h hh
  unfold ZnR at ha
  have ha:=Option.some.inj ha
  have h1:Hu t ar g h b0 b01 L i v.1 v.2 d=some (.inl (if seesB t ar g h d then iJoin v d.2.2.2.2 else v)):=by
   unfold Hu seesB
   rw [ha,Zc2 ed.v]
   simp only [ZD,VW,Zb]
   cases d.1 !=t<;>cases d.2.1==ar<;>cases d.2.2.1==g<;>cases apI d.2.2.2.1 h<;>rfl
  rw [Zl]
  simp only [h1]
  exact ZU1 t ar g h hh b0 b01 L r (i+1) _ fun e k=>he e (List.mem_cons_of_mem _ k)
theorem ZKt (l:List En) (t:Int) (ar:Bool) (g h:Int) (hh:0≤h∧h<2147483648) (he:∀ e∈l,entOK e) (hl:l.length<9223372036854775807):ZsG l t ar g h=some (seenV l t ar g h):=by
 unfold ZsG
 have e:ZbH (l,t,ar,g,h,0,0,0,1,0)=_:=ZEv t ar g h 0 0 l nn hl
 rw [e]
 unfold Zji
 rw [ZU1 t ar g h hh 0 0 l l 0 nn he]
 rfl
theorem ZWG (t:Int) (ar:Bool) (g h m:Int) (hh:0≤h∧h<2147483648) (b1 b11 b2 b21:Int) (L:List En):∀ (l:List En) (i:Nat) (v:I),(∀ e∈l,entOK e)→
  Zl (fun i s d=>Hw t ar g h b1 b11 m b2 b21 L i s.1 s.2 d) (fun s=>ZiX t ar g h b1 b11 m b2 b21 L s.1 s.2) i l v =
   some (b1,b11,m,b2,b21,(seenS (fun e=>seesB t ar g h e&&tb e.2.2.2.1 m) v l).1,(seenS (fun e=>seesB t ar g h e&&tb e.2.2.2.1 m) v l).2)
 | [],i,v,_=>rfl
 | d::r,i,v,he=>by
  have ed:=he d (by simp)
  have h1:Hw t ar g h b1 b11 m b2 b21 L i v.1 v.2 d=some (.inl (if seesB t ar g h d&&tb d.2.2.2.1 m then iJoin v d.2.2.2.2 else v)):=by
   unfold Hw seesB
   simp only [Zfj,ZKq _ _ ed.h hh,ZW,Zdh d.2.2.2.1 m ⟨ed.h.1,by have:=ed.h.2;omega⟩,ZF,ZbF,Zb]
   cases d.1 !=t<;>cases d.2.1==ar<;>cases d.2.2.1==g<;>cases apI d.2.2.2.1 h<;>cases tb d.2.2.2.1 m<;>rfl
  rw [Zl]
  simp only [h1]
  exact ZWG t ar g h m hh b1 b11 b2 b21 L r (i+1) _ fun e k=>he e (List.mem_cons_of_mem _ k)
theorem ZUo (l:List En) (t:Int) (ar:Bool) (g h m:Int) (hh:0≤h∧h<2147483648) (he:∀ e∈l,entOK e) (hl:l.length<9223372036854775807):ZsN l t ar g h m=some (gainV l t ar g h m):=by
 unfold ZsN
 have e:ZbJ (t,ar,g,h,l,(l.length:Int),0,0,0,m,0,0,1,0)=_:=ZEx t ar g h 0 0 m 0 0 l nn hl
 rw [e]
 unfold Zjk
 rw [ZWG t ar g h m hh 0 0 0 0 l l 0 nn he]
 rfl
theorem ZWA (t:Int) (ar:Bool) (g h m b0 b01:Int) (L:List En):∀ (l:List En) (i:Nat) (o:List En),(∀ e∈l,entOK e)→o.length+l.length<1000000000000→
  Zl (fun i s d=>Kg t ar g h m b0 b01 L i s d) (fun s=>Zf7 t ar g h m b0 b01 L s) i l o=some (t,ar,g,h,b0,b01,o++l.filter fun e=>tb e.2.2.2.1 m)
 | [],i,o,_,_=>by simp only [Zl,List.filter_nil,List.append_nil];rfl
 | d::r,i,o,he,hn=>by
  have ed:=he d (by simp)
  simp only [List.length_cons] at hn
  have h1:Kg t ar g h m b0 b01 L i o d=some (.inl (if tb d.2.2.2.1 m then o++[d] else o)):=by
   unfold Kg
   simp only [Zaz,Zs2 d.2.2.2.1 m ed.h,Zb]
   rw [decide_eq_true (show (o.length+[d].length+1)*48≤lim by simp only [List.length_singleton];unfold lim;omega)]
   cases tb d.2.2.2.1 m<;>rfl
  rw [Zl]
  simp only [h1]
  rw [ZWA t ar g h m b0 b01 L r (i+1) _ (fun e k=>he e (List.mem_cons_of_mem _ k)) (by split<;>(try simp only [List.length_append,List.length_singleton])<;>omega)]
  cases hb:tb d.2.2.2.1 m
  ·simp [hb]
  ·simp [hb]
theorem ZAd (p q:En→Bool):∀ (l:List En) (v:I),seenS p v (l.filter q)=seenS (fun e=>p e&&q e) v l
 | [],_=>rfl
 | d::r,v=>by
  unfold seenS
  cases hq:q d
  ·rw [List.filter_cons_of_neg (by simp [hq]),List.foldl_cons]
   simp only [hq,Bool.and_false,Bool.false_eq_true,if_false]
   exact ZAd p q r v
  ·rw [List.filter_cons_of_pos hq,List.foldl_cons,List.foldl_cons]
   simp only [hq,Bool.and_true]
   exact ZAd p q r _
theorem ZoG (l:List En) (t:Int) (ar:Bool) (g h m:Int) (hh:0≤h∧h<2147483648) (he:∀ e∈l,entOK e) (hl:l.length<1000000000000):ZoD l t ar g h m=some (gainV l t ar g h m):=by
 unfold ZoD
 have e:Zap (l,t,ar,g,h,m,0,0,0,[])=_:=ZAN t ar g h m 0 0 l [] (by omega)
 rw [e]
 unfold Zge
 rw [ZWA t ar g h m 0 0 l l 0 [] he (by simpa using hl)]
 simp only [Zb,List.nil_append,ZnE]
 rw [ZKt _ t ar g h hh (fun e k=>he e (List.mem_filter.1 k).1) (Nat.lt_of_le_of_lt (List.length_filter_le ..) (by omega))]
 simp only [Zb]
 unfold seenV gainV
 rw [ZAd]
section
open Go.Proofs Go.Proofs.YtbdcblpjemmipaaGreat
abbrev YJ:=((List I)×(List I)×Int)
abbrev JI:=Unit
abbrev JJ:=Bool
def Zb1 (s0 s1:List I) (s5:Int):Option (((List I)×(List I)×Int)⊕(Unit⊕Bool)):=
 bif decide (s5<(↑s0.length:Int)) then
 bif decide (0≤s5) then
 optC s0[s5.toNat]? none fun d5=>
 bif decide (0≤s5) then
 optC s1[s5.toNat]? none fun d6=>
 bif !(d5.1==d6.1&&d5.2==d6.2) then some (Sum.inr (Sum.inr false)) else some (Sum.inl (s0,s1,IntKind.i64.wrap (s5+1)))
 else none
 else none
 else some (Sum.inr (Sum.inl PUnit.unit))
def Zk0:YJ→Option (YJ⊕(JI⊕JJ)):=fun (a,b,c)=>Zb1 a b c
def ZfF (x:YJ):Option (JI⊕JJ):=iterO Zk0 Zj x
def Zi1 (a0 a1:List I):Option Bool:=
 bif (↑a0.length:Int) !=(↑a1.length:Int) then some false
 else optC (ZfF (a0,a1,0)) none fun d4=>Sum.elim (fun e5=>some true) (fun e5=>some e5) d4
def ZiJ (x:((List I)×((List I)×Unit))):Option Bool:=Zi1 x.1 x.2.1
end
def ZbO (s1 s0:List I) (i:Nat)  (d:I):Option (Unit⊕(JI⊕JJ)):=
 optC s1[i]? (none) fun d6=>
  bif !(d.1==d6.1&&d.2==d6.2) then
  some (Sum.inr (Sum.inr false))
 else some (Sum.inl ())
def Zsv (s1 s0:List I):Option (JI⊕JJ):=
 some (Sum.inl PUnit.unit)
abbrev ZGN (s1 s0:List I) (i:Nat) (s:Unit):YJ:=(s0,s1,(i:Int))
def ZkE (s1 s0:List I) (s:Unit):Option (JI⊕JJ):=Zl (fun i s d=>ZbO s1 s0 i  d) (fun s=>Zsv s1 s0 ) 0 s0 s
theorem Ztb (s1 s0:List I) (s:Unit) (hl:s0.length<9223372036854775807):ZfF (s0,s1,0)=ZkE s1 s0 s:=by
 unfold ZfF ZkE
 refine Zk s0 (ZGN s1 s0) _ _ ?_ ?_ s (by unfold Zj;omega)
 ·intro i s d hi hd
  have e1:decide ((i:Int)<(s0.length:Int))=true:=decide_eq_true (by omega)
  have e2:decide (0≤(i:Int))=true:=decide_eq_true (by omega)
  have e3:Int.toNat (i:Int)=i:=Int.toNat_natCast i
  have e4:=Zm hi (Nat.le_of_lt hl)
  show Zb1 (s0) (s1) ((i:Int))=upd _ (ZbO s1 s0 i  d)
  unfold Zb1 ZbO
  simp only [e1,e2,e3,e4,hd,cond_true,cond_false,Zb,Zv,Zy,Zw,ZB,ZC,Zx]
 ·intro s
  have e1:decide ((s0.length:Int)<(s0.length:Int))=false:=decide_eq_false (by omega)
  show Zb1 (s0) (s1) ((s0.length:Int))=_
  unfold Zb1 Zsv
  rw [e1]
  rfl
section
open Go.Proofs Go.Proofs.YtbdcblpjemmipaaGreat
def ZiZ (a0 a1:E):Option Bool:=
 bif !a0.1 then some (a0.1==a1.1)
 else
 bif !a1.1 then some (a0.1==a1.1)
 else
 optC (ZiJ (a0.2.1,a1.2.1,())) none fun d3=>
 bif d3 then
 optC (ZiJ (a0.2.2.1,a1.2.2.1,())) none fun d4=>
 bif d4 then
 optC (ZiJ (a0.2.2.2.1,a1.2.2.2.1,())) none fun d5=>
 bif d5 then bif a0.2.2.2.2.1==a1.2.2.2.2.1 then some (a0.2.2.2.2.2==a1.2.2.2.2.2) else some false
 else some false
 else some false
 else some false
def Zdn (x:E×(E×Unit)):Option Bool:=ZiZ x.1 x.2.1
end
section
open Go.Proofs Go.Proofs.YtbdcblpjemmipaaGreat
def Zi3 (a0:E) (a1:Int) (a2:I):Option E:=
 bif decide (((List.length (α:=I) [])+List.length a0.2.1+1)*16≤lim) then
 bif decide (0≤a1) then
 optC ([]++a0.2.1)[a1.toNat]? none fun d4=>
 optC ([]++a0.2.1)[a1.toNat]? none fun d5=>
 some (a0.1,([]++a0.2.1).set a1.toNat a2,a0.2.2.1,a0.2.2.2.1,a0.2.2.2.2.1,a0.2.2.2.2.2)
 else none
 else none
def Zq (x:(E×(Int×(I×Unit)))):Option E:=Zi3 x.1 x.2.1 x.2.2.1
end
section
open Go.Proofs Go.Proofs.YtbdcblpjemmipaaGreat
def ZHf:List Sh:=[.dat tU,.dat (.int .i64),.dat tE,.dat (.sl tEn),.dat .bool,.dat (.int .i64)]
def ZKV:List Con:=[⟨171,ZJY,ZVk⟩,⟨111,Zas,ZbV⟩]
def Zvd (a0:U) (a1:Int) (a2:E) (a3:List En) (a4:Bool) (a5:Int):Option I:=
 bif a4 then
 bif decide (0≤a5) then
 optC a2.2.2.2.1[a5.toNat]? none fun d7=>
 optC (Zx5 (a3,a1,a4,a5,a2.2.2.2.2.1,())) none fun d8=>optC (ZF ([d7,d8],())) none fun d9=>some (d9.1,d9.2)
 else none
 else
 bif decide (0≤a5) then
 optC a2.2.2.1[a5.toNat]? none fun d7=>
 optC (Zx5 (a3,a1,a4,a5,a2.2.2.2.2.1,())) none fun d8=>optC (ZF ([d7,d8],())) none fun d9=>some (d9.1,d9.2)
 else none
theorem ZSm (a0:U) (a1:Int) (a2:E) (a3:List En) (a4:Bool) (a5:Int):evGX (cxU ZKV [] 40 1048576) keeps 8 133 ZHf (.dat tI) ((a0,a1,a2,a3,a4,a5,()):(U×(Int×(E×((List En)×(Bool×(Int×Unit)))))))=Zvd a0 a1 a2 a3 a4 a5:=by kernel_rfl
def Qn (x:(U×(Int×(E×((List En)×(Bool×(Int×Unit))))))):Option I:=Zvd x.1 x.2.1 x.2.2.1 x.2.2.2.1 x.2.2.2.2.1 x.2.2.2.2.2.1
def ZHI:List AV→Prog AV:=conP false ZHf (.dat tI) Qn
theorem ZSS:Zd Tryz.prog 133 ZHI:=Zc (calU ZKV [] 40 1048576 8 133) false (by rfl) (by rfl) (fun x r e=>(Zg _ _ _ _ _ _ _).trans ((ZSm x.1 x.2.1 x.2.2.1 x.2.2.2.1 x.2.2.2.2.1 x.2.2.2.2.2.1).trans e)) (.inr fun _=>rfl)
end
section
open Go.Proofs Go.Proofs.YtbdcblpjemmipaaGreat
def ZsH (a0:Int) (a1:E) (a2:List En) (a3:Bool) (a4:Int):Option I:=
 optC (ZnE (a2,a0,a3,a4,a1.2.2.2.2.1,())) none fun d6=>
 bif a3 then
 bif decide (0≤a4) then optC a1.2.2.2.1[a4.toNat]? none fun d7=>optC (ZD (d7,d6,())) none fun d8=>some (d8.1,d8.2)
 else none
 else
 bif decide (0≤a4) then optC a1.2.2.1[a4.toNat]? none fun d7=>optC (ZD (d7,d6,())) none fun d8=>some (d8.1,d8.2)
 else none
def Qu (x:(Int×(E×((List En)×(Bool×(Int×Unit)))))):Option I:=ZsH x.1 x.2.1 x.2.2.1 x.2.2.2.1 x.2.2.2.2.1
end
def upto {α:Type} (f:Nat→α→α) (k:Nat) (l:List α):List α:=l.mapIdx fun j d=>if j<k then f j d else d
theorem ZZw {α:Type} (f:Nat→α→α) (l:List α):upto f 0 l=l:=by
 apply List.ext_getElem?
 intro j
 simp [upto]
theorem Z0M {α:Type} (f:Nat→α→α) (l:List α):upto f l.length l=l.mapIdx f:=by
 apply List.ext_getElem?
 intro j
 simp only [upto,List.getElem?_mapIdx]
 cases h:l[j]? with
 | none=>rfl
 | some d=>
  have:=(List.getElem?_eq_some_iff.1 h).1
  simp [this]
theorem Z0N {α:Type} (f:Nat→α→α) {l:List α} {i:Nat} {d:α} (h:l[i]? = some d):(upto f i l)[i]? = some d:=by
 simp only [upto,List.getElem?_mapIdx,h]
 simp
theorem Z0O {α:Type} (f:Nat→α→α) {l:List α} {i:Nat} {d:α} (h:l[i]? = some d):(upto f i l).set i (f i d)=upto f (i+1) l:=by
 apply List.ext_getElem?
 intro j
 have hi:=(List.getElem?_eq_some_iff.1 h).1
 by_cases e:i=j
 ·subst e
  rw [List.getElem?_set_self (by simp [upto];exact hi)]
  simp only [upto,List.getElem?_mapIdx,h]
  simp
 ·rw [List.getElem?_set_ne e]
  simp only [upto,List.getElem?_mapIdx]
  cases l[j]? with
  | none=>rfl
  | some x=>
   by_cases k:j<i
   ·simp [k,show j<i+1 by omega]
   ·simp [k,show ¬ j<i+1 by omega]
theorem ZVr {α:Type} (f:Nat→α→α) (k:Nat) (l:List α):(upto f k l).length=l.length:=by simp [upto]
theorem Zre {X Y α:Type} {step:X→Option (X⊕Y)} (rx:Nat→List α→X) (f:Nat→α→α) (fin:List α→Y) (l:List α)
  (hs:∀ i d r,l[i]? = some d→r.length=l.length→r[i]? = some d→step (rx i r)=some (.inl (rx (i+1) (r.set i (f i d)))))
  (he:∀ r,r.length=l.length→step (rx l.length r)=some (.inr (fin r))) (hl:l.length<9223372036854775807):iterO step Zj (rx 0 l)=some (fin (l.mapIdx f)):=by
 have go:∀ k i,i+k=l.length→iterO step (k+1) (rx i (upto f i l))=some (fin (l.mapIdx f)):=by
  intro k
  induction k with
  | zero=>
   intro i hi
   have:i=l.length:=by omega
   subst this
   rw [iterO,he _ (ZVr _ _ _),Z0M]
  | succ k ih=>
   intro i hi
   obtain ⟨d,hd⟩:∃ d,l[i]? = some d:=⟨l[i]'(by omega),List.getElem?_eq_getElem _⟩
   rw [iterO,hs i d _ hd (ZVr _ _ _) (Z0N f hd),Z0O f hd]
   exact ih (i+1) (by omega)
 have:=go l.length 0 (by omega)
 rw [ZZw] at this
 exact ZsP _ _ _ _ (by unfold Zj;omega) this
def ZEZ (e:E):Prop:=e.2.1.length<9223372036854775807∧e.2.2.1.length<9223372036854775807∧e.2.2.2.1.length<9223372036854775807
def Zbb (o:O):Prop:=ZEZ o.1∧ZEZ o.2.1∧o.2.2.1.length<9223372036854775807∧o.2.2.2.1.length<9223372036854775807∧o.2.2.2.2.length<9223372036854775807
theorem ZQK {p:En→Bool}:∀ {l:List En} {v:I},isB v=true→(∀ e∈l,entOK e)→isB (seenS p v l)=true
 | [],v,hv,_=>hv
 | e::r,v,hv,h=>by
  unfold seenS
  rw [List.foldl_cons]
  refine ZQK (l:=r) ?_ fun x hx=>h x (List.mem_cons_of_mem _ hx)
  have he:=(h e (List.mem_cons_self ..)).v
  split
  ·rw [Zc2 he];exact ZkA hv he
  ·exact hv
theorem ZXR:isB nn=true:=by decide
theorem ZU8 {l:List En} {t:Int} {ar:Bool} {g h:Int} (he:∀ e∈l,entOK e):isB (seenV l t ar g h)=true:=ZQK ZXR he
theorem ZuJ {l:List En} {t:Int} {ar:Bool} {g h m:Int} (he:∀ e∈l,entOK e):isB (gainV l t ar g h m)=true:=ZQK ZXR he
def readV (d:I) (l:List En) (t:Int) (ar:Bool) (g h:Int):I:=rJoin d (seenV l t ar g h)
theorem Zvt (u:U) (t:Int) (e:E) (l:List En) (ar:Bool) (g:Int) (d:I) (hg:0≤g) (hd:(if ar then e.2.2.2.1 else e.2.2.1)[g.toNat]? = some d)
  (hh:0≤e.2.2.2.2.1∧e.2.2.2.2.1<2147483648) (he:∀ e∈l,entOK e) (hl:l.length<9223372036854775807):Zvd u t e l ar g=some (readV d l t ar g e.2.2.2.2.1):=by
 unfold Zvd Zx5 ZF
 simp only [ZXQ l t ar g _ hh he hl,Zb,ZbF,ZLf hg,Zc2 (ZU8 he)]
 cases ar<;>(simp only [Bool.false_eq_true,if_true,if_false] at hd;rw [hd];rfl)
theorem ZKu (t:Int) (e:E) (l:List En) (ar:Bool) (g:Int) (d:I) (hg:0≤g) (hd:(if ar then e.2.2.2.1 else e.2.2.1)[g.toNat]? = some d)
  (hh:0≤e.2.2.2.2.1∧e.2.2.2.2.1<2147483648) (he:∀ e∈l,entOK e) (hl:l.length<9223372036854775807):ZsH t e l ar g=some (readV d l t ar g e.2.2.2.2.1):=by
 unfold ZsH ZnE ZD
 simp only [ZKt l t ar g _ hh he hl,Zb,VW,ZLf hg]
 cases ar<;>(simp only [Bool.false_eq_true,if_true,if_false] at hd;rw [hd];rfl)
theorem Zat (e:E) (T:Int) (v:I) (h0:0≤T) (h1:T<(e.2.1.length:Int)) (h2:e.2.1.length≤1000):Zi3 e T v=some (e.1,e.2.1.set T.toNat v,e.2.2):=by
 unfold Zi3
 obtain ⟨d,hd⟩:∃ d,e.2.1[T.toNat]? = some d:=⟨e.2.1[T.toNat]'(by omega),List.getElem?_eq_getElem _⟩
 simp only [List.nil_append,List.length_nil,Nat.zero_add]
 rw [ZLf (by unfold lim;omega),ZLf h0,hd]
 rfl
section
open Go.Proofs Go.Proofs.YtbdcblpjemmipaaGreat
def ZIj:Ctx:={ tab:=tab,spec:=fun _=>none,inl:=inl,lps:=fun _ _=>none,fuel:=40 }
def ZeS:List AV→Prog AV:=ZOj 16 tI
theorem ZkM:Zd Tryz.prog 173 ZeS:=
 ZMo (cx:=ZIj) (cal:=fun _ _=>.fail) (i:=⟨(.sl (.st (.pair (.int .i64) (.int .i64)))),24,46,[],false⟩) (ie:=⟨(.st (.pair (.int .i64) (.int .i64))),16,0,[(0,1),(1,1)],true⟩) (Zu2 ZAk) Tryz.func173 (ZTW 173 Tryz.f173 rfl).2 (t:=42) (tb:=4) (s0 := "slices.go:355") (s1 := "slices.go:357") (s2 := "slices.go:358") (s3 := "slices.go:362") (by kernel_rfl) (by kernel_rfl) (by kernel_rfl) rfl rfl rfl rfl
end
section
open Go.Proofs Go.Proofs.YtbdcblpjemmipaaGreat
abbrev Zrx:Type:=((Int×(Int×(Int×(Int×(Int×(Int×(Int×(Int×(Int×((List Int)×((List Int)×(Int×((List C)×(Int×(Int×(Bool×((List I)×((List I)×((List I)×(Int×(Int×((List En)×(Bool×((List I)×((List I)×((List I)×(Int×(Int×(Bool×((List I)×((List I)×((List I)×(Int×(Int×((List Int)×((List En)×((List Ac)×Unit)))))))))))))))))))))))))))))))))))))×((List I)×(Bool×Unit)))
abbrev Zry:Type:=(Int×Int×Int×Int×Int×Int×Int×Int×Int×(List Int)×(List Int)×Int×(List C)×Int×Int×Bool×(List I)×(List I)×(List I)×Int×Int×(List En)×Bool×(List I)×(List I)×(List I)×Int×Int×Bool×(List I)×(List I)×(List I)×Int×Int×(List Int)×(List En)×(List Ac)×Bool×Int×Int×(List I))
def ZtG:List Sh:=[.view [.int .i64,.int .i64,.int .i64,.int .i64,.int .i64,.int .i64,.int .i64,.int .i64,.int .i64,.sln (.int .i64),.sln (.int .i64),.int .i64,.sln tC,.int .i64,.int .i64,.bool,.sln tI,.sln tI,.sln tI,.int .i64,.int .i64,.sln tEn,.bool,.sln tI,.sln tI,.sln tI,.int .i64,.int .i64,.bool,.sln tI,.sln tI,.sln tI,.int .i64,.int .i64,.sln (.int .i64),.sln tEn,.sln tAc] 0,.dat (.sl tI),.dat .bool]
def Zfs:Nat→List Nat:=fun c=>bif c.beq 0 then [0,1,2,11,12,13] else [1]
def Zhn:List Con:=[⟨173,ZeS,ZkM⟩,⟨201,ZDI,ZQ1⟩,⟨111,Zas,ZbV⟩]
def Ql:StS:=⟨[(0,.view [.int .i64,.int .i64,.int .i64,.int .i64,.int .i64,.int .i64,.int .i64,.int .i64,.int .i64,.sl (.int .i64),.sl (.int .i64),.int .i64,.sl tC,.int .i64,.int .i64,.bool,.sl tI,.sl tI,.sl tI,.int .i64,.int .i64,.sl tEn,.bool,.sl tI,.sl tI,.sl tI,.int .i64,.int .i64,.bool,.sl tI,.sl tI,.sl tI,.int .i64,.int .i64,.sl (.int .i64),.sl tEn,.sl tAc] 0),(1,.row 0),(2,.bool),(11,.row 0),(12,.int .i64),(13,.int .i64)],[(0,.row tI)],1⟩
def QL:StS:=⟨[(1,.row 0)],[(0,.row tI)],1⟩
abbrev Jp:=Zry
def ZlS:StD Ql→Jp:=fun (((a,b,c,d,e,f,g,h,i,j,k,l,m,n,o,p,q,r,s,t,u,w,y,z,au,aw,ay,az,bu,bw,bz,cu,cw,cy,cz,du,dw,_),_,dy,_,dz,eu,_),(ew,_))=>(a,b,c,d,e,f,g,h,i,j,k,l,m,n,o,p,q,r,s,t,u,w,y,z,au,aw,ay,az,bu,bw,bz,cu,cw,cy,cz,du,dw,dy,dz,eu,ew)
def Zeh:Jp→StD Ql:=fun (a,b,c,d,e,f,g,h,i,j,k,l,m,n,o,p,q,r,s,t,u,w,y,z,au,aw,ay,az,bu,bw,bz,cu,cw,cy,cz,du,dw,dy,dz,eu,ew)=>(((a,b,c,d,e,f,g,h,i,j,k,l,m,n,o,p,q,r,s,t,u,w,y,z,au,aw,ay,az,bu,bw,bz,cu,cw,cy,cz,du,dw,()),(),dy,(),dz,eu,()),(ew,()))
abbrev WL:=(List I)
def ZuG (d:StD QL):WL:=(d.2.1)
def Zc5 (x:WL):StD QL:=(((),()),(x,()))
def Yf (s0 s0_1 s0_2 s0_3 s0_4 s0_5 s0_6 s0_7 s0_8:Int) (s0_9 s0_10:List Int) (s0_11:Int) (s0_12:List C) (s0_13 s0_14:Int) (s0_15:Bool) (s0_16 s0_17 s0_18:List I) (s0_19 s0_20:Int) (s0_21:List En) (s0_22:Bool) (s0_23 s0_24 s0_25:List I) (s0_26 s0_27:Int) (s0_28:Bool) (s0_29 s0_30 s0_31:List I) (s0_32 s0_33:Int) (s0_34:List Int) (s0_35:List En) (s0_36:List Ac) (s2:Bool) (s12 s13:Int) (b0:List I):Option (Zry⊕(List I)):=
 bif decide (s13<s12) then
 bif decide (0≤s13) then
 optC b0[s13.toNat]? none fun d43=>
 optC b0[s13.toNat]? none fun d44=>
 optC (Zy3 (s0_21,s0_13,s2,s13,s0_19,s0_4,())) none fun d45=>
 optC (ZF ([d44,d45],())) none fun d46=>
 bif decide (0≤s13) then
 optC b0[s13.toNat]? none fun d47=>
 optC b0[s13.toNat]? none fun d48=>
 some
 (Sum.inl
 (s0,s0_1,s0_2,s0_3,s0_4,s0_5,s0_6,s0_7,s0_8,s0_9,s0_10,s0_11,s0_12,s0_13,s0_14,s0_15,s0_16,s0_17,s0_18,s0_19,s0_20,s0_21,s0_22,s0_23,s0_24,s0_25,s0_26,
 s0_27,s0_28,s0_29,s0_30,s0_31,s0_32,s0_33,s0_34,s0_35,s0_36,s2,s12,IntKind.i64.wrap (s13+1),b0.set s13.toNat d46))
 else none
 else none
 else some (Sum.inr b0)
def Zeg:Jp→Option (Jp⊕WL):=fun (a,b,c,d,e,f,g,h,i,j,k,l,m,n,o,p,q,r,s,t,u,w,y,z,au,aw,ay,az,bu,bw,bz,cu,cw,cy,cz,du,dw,dy,dz,eu,ew)=>Yf a b c d e f g h i j k l m n o p q r s t u w y z au aw ay az bu bw bz cu cw cy cz du dw dy dz eu ew
theorem ZwW (x:Jp):rdX (cxU Zhn [] 40 1048576) keeps 8 ⟨176,47,keeps 176,0⟩ 0 (bodyX 176 0) 0 Zfs (sT Ql (Zeh x)) (sH Ql (Zeh x)) (rdO (fun T h=>(rdS Ql T h).map ZlS) (getE 2 QL ZuG))=Zeg x:=by kernel_rfl
def ZbC (x:Jp):Option WL:=iterO Zeg Zj x
def Zo4:Nat→Tm→Prog (Nat×Tm):=(varP 0 (fun T h=>(rdS Ql T h).map ZlS) ZbC (altE 2 QL Zc5) (fun _ _=>.fail))
def Zob:Lpc:=⟨176,0,47,(fun base T=>.norm base (Zfs 0) T (Zo4 base)),by kernel_rfl,by kernel_rfl,(loopU Zhn [] 40 1048576 8 (keep:=Zfs) (q:=Zo4) (by kernel_rfl) (Zp (s:=Ql) (un:=Zeh) (by rfl) (fun _=>rfl) (Zi (s:=QL) (un:=Zc5) (by rfl) (fun _=>rfl)) (step:=Zeg) ZwW (fun _ _ e=>⟨_,e⟩) (Zh 2 QL Zc5) (ZA.fail _ _)))⟩
def Zis (a0 a1 a2 a3 a4 a5 a6 a7 a8:Int) (a9 a10:List Int) (a11:Int) (a12:List C) (a13 a14:Int) (a15:Bool) (a16 a17 a18:List I) (a19 a20:Int) (a21:List En) (a22:Bool) (a23 a24 a25:List I) (a26 a27:Int) (a28:Bool) (a29 a30 a31:List I) (a32 a33:Int) (a34:List Int) (a35:List En) (a36:List Ac) (a37:List I) (a38:Bool):Option (List I):=
 bif decide (((List.length (α:=I) [])+a37.length+1)*16≤lim) then
 optC
 (ZbC
 (a0,a1,a2,a3,a4,a5,a6,a7,a8,a9,a10,a11,a12,a13,a14,a15,a16,a17,a18,a19,a20,a21,a22,a23,a24,a25,a26,a27,a28,a29,a30,a31,a32,a33,a34,a35,a36,a38,
 (↑([]++a37).length:Int),0,[]++a37))
 none fun d41=>some d41
 else none
theorem ZIA (a0 a1 a2 a3 a4 a5 a6 a7 a8:Int) (a9 a10:List Int) (a11:Int) (a12:List C) (a13 a14:Int) (a15:Bool) (a16 a17 a18:List I) (a19 a20:Int) (a21:List En) (a22:Bool) (a23 a24 a25:List I) (a26 a27:Int) (a28:Bool) (a29 a30 a31:List I) (a32 a33:Int) (a34:List Int) (a35:List En) (a36:List Ac) (a37:List I) (a38:Bool):evRX (cxU Zhn [Zob] 40 1048576) keeps 8 176 ZtG tI (((a0,a1,a2,a3,a4,a5,a6,a7,a8,a9,a10,a11,a12,a13,a14,a15,a16,a17,a18,a19,a20,a21,a22,a23,a24,a25,a26,a27,a28,a29,a30,a31,a32,a33,a34,a35,a36,()),a37,a38,()):Zrx)=Zis a0 a1 a2 a3 a4 a5 a6 a7 a8 a9 a10 a11 a12 a13 a14 a15 a16 a17 a18 a19 a20 a21 a22 a23 a24 a25 a26 a27 a28 a29 a30 a31 a32 a33 a34 a35 a36 a37 a38:=by kernel_rfl
def Qe (x:Zrx):Option (List I):=Zis x.1.1 x.1.2.1 x.1.2.2.1 x.1.2.2.2.1 x.1.2.2.2.2.1 x.1.2.2.2.2.2.1 x.1.2.2.2.2.2.2.1 x.1.2.2.2.2.2.2.2.1 x.1.2.2.2.2.2.2.2.2.1 x.1.2.2.2.2.2.2.2.2.2.1 x.1.2.2.2.2.2.2.2.2.2.2.1 x.1.2.2.2.2.2.2.2.2.2.2.2.1 x.1.2.2.2.2.2.2.2.2.2.2.2.2.1 x.1.2.2.2.2.2.2.2.2.2.2.2.2.2.1 x.1.2.2.2.2.2.2.2.2.2.2.2.2.2.2.1 x.1.2.2.2.2.2.2.2.2.2.2.2.2.2.2.2.1 x.1.2.2.2.2.2.2.2.2.2.2.2.2.2.2.2.2.1 x.1.2.2.2.2.2.2.2.2.2.2.2.2.2.2.2.2.2.1 x.1.2.2.2.2.2.2.2.2.2.2.2.2.2.2.2.2.2.2.1 x.1.2.2.2.2.2.2.2.2.2.2.2.2.2.2.2.2.2.2.2.1 x.1.2.2.2.2.2.2.2.2.2.2.2.2.2.2.2.2.2.2.2.2.1 x.1.2.2.2.2.2.2.2.2.2.2.2.2.2.2.2.2.2.2.2.2.2.1 x.1.2.2.2.2.2.2.2.2.2.2.2.2.2.2.2.2.2.2.2.2.2.2.1 x.1.2.2.2.2.2.2.2.2.2.2.2.2.2.2.2.2.2.2.2.2.2.2.2.1 x.1.2.2.2.2.2.2.2.2.2.2.2.2.2.2.2.2.2.2.2.2.2.2.2.2.1 x.1.2.2.2.2.2.2.2.2.2.2.2.2.2.2.2.2.2.2.2.2.2.2.2.2.2.1 x.1.2.2.2.2.2.2.2.2.2.2.2.2.2.2.2.2.2.2.2.2.2.2.2.2.2.2.1 x.1.2.2.2.2.2.2.2.2.2.2.2.2.2.2.2.2.2.2.2.2.2.2.2.2.2.2.2.1 x.1.2.2.2.2.2.2.2.2.2.2.2.2.2.2.2.2.2.2.2.2.2.2.2.2.2.2.2.2.1 x.1.2.2.2.2.2.2.2.2.2.2.2.2.2.2.2.2.2.2.2.2.2.2.2.2.2.2.2.2.2.1 x.1.2.2.2.2.2.2.2.2.2.2.2.2.2.2.2.2.2.2.2.2.2.2.2.2.2.2.2.2.2.2.1 x.1.2.2.2.2.2.2.2.2.2.2.2.2.2.2.2.2.2.2.2.2.2.2.2.2.2.2.2.2.2.2.2.1 x.1.2.2.2.2.2.2.2.2.2.2.2.2.2.2.2.2.2.2.2.2.2.2.2.2.2.2.2.2.2.2.2.2.1 x.1.2.2.2.2.2.2.2.2.2.2.2.2.2.2.2.2.2.2.2.2.2.2.2.2.2.2.2.2.2.2.2.2.2.1 x.1.2.2.2.2.2.2.2.2.2.2.2.2.2.2.2.2.2.2.2.2.2.2.2.2.2.2.2.2.2.2.2.2.2.2.1 x.1.2.2.2.2.2.2.2.2.2.2.2.2.2.2.2.2.2.2.2.2.2.2.2.2.2.2.2.2.2.2.2.2.2.2.2.1 x.1.2.2.2.2.2.2.2.2.2.2.2.2.2.2.2.2.2.2.2.2.2.2.2.2.2.2.2.2.2.2.2.2.2.2.2.2.1 x.2.1 x.2.2.1
def ZtL:List AV→Prog AV:=conR false ZtG tI Qe
theorem ZJi:Zd Tryz.prog 176 ZtL:=Zkn (calU Zhn [Zob] 40 1048576 8 176) false (by rfl) (fun x r e=>(ZuE _ _ _ _ _ _ _).trans ((ZIA x.1.1 x.1.2.1 x.1.2.2.1 x.1.2.2.2.1 x.1.2.2.2.2.1 x.1.2.2.2.2.2.1 x.1.2.2.2.2.2.2.1 x.1.2.2.2.2.2.2.2.1 x.1.2.2.2.2.2.2.2.2.1 x.1.2.2.2.2.2.2.2.2.2.1 x.1.2.2.2.2.2.2.2.2.2.2.1 x.1.2.2.2.2.2.2.2.2.2.2.2.1 x.1.2.2.2.2.2.2.2.2.2.2.2.2.1 x.1.2.2.2.2.2.2.2.2.2.2.2.2.2.1 x.1.2.2.2.2.2.2.2.2.2.2.2.2.2.2.1 x.1.2.2.2.2.2.2.2.2.2.2.2.2.2.2.2.1 x.1.2.2.2.2.2.2.2.2.2.2.2.2.2.2.2.2.1 x.1.2.2.2.2.2.2.2.2.2.2.2.2.2.2.2.2.2.1 x.1.2.2.2.2.2.2.2.2.2.2.2.2.2.2.2.2.2.2.1 x.1.2.2.2.2.2.2.2.2.2.2.2.2.2.2.2.2.2.2.2.1 x.1.2.2.2.2.2.2.2.2.2.2.2.2.2.2.2.2.2.2.2.2.1 x.1.2.2.2.2.2.2.2.2.2.2.2.2.2.2.2.2.2.2.2.2.2.1 x.1.2.2.2.2.2.2.2.2.2.2.2.2.2.2.2.2.2.2.2.2.2.2.1 x.1.2.2.2.2.2.2.2.2.2.2.2.2.2.2.2.2.2.2.2.2.2.2.2.1 x.1.2.2.2.2.2.2.2.2.2.2.2.2.2.2.2.2.2.2.2.2.2.2.2.2.1 x.1.2.2.2.2.2.2.2.2.2.2.2.2.2.2.2.2.2.2.2.2.2.2.2.2.2.1 x.1.2.2.2.2.2.2.2.2.2.2.2.2.2.2.2.2.2.2.2.2.2.2.2.2.2.2.1 x.1.2.2.2.2.2.2.2.2.2.2.2.2.2.2.2.2.2.2.2.2.2.2.2.2.2.2.2.1 x.1.2.2.2.2.2.2.2.2.2.2.2.2.2.2.2.2.2.2.2.2.2.2.2.2.2.2.2.2.1 x.1.2.2.2.2.2.2.2.2.2.2.2.2.2.2.2.2.2.2.2.2.2.2.2.2.2.2.2.2.2.1 x.1.2.2.2.2.2.2.2.2.2.2.2.2.2.2.2.2.2.2.2.2.2.2.2.2.2.2.2.2.2.2.1 x.1.2.2.2.2.2.2.2.2.2.2.2.2.2.2.2.2.2.2.2.2.2.2.2.2.2.2.2.2.2.2.2.1 x.1.2.2.2.2.2.2.2.2.2.2.2.2.2.2.2.2.2.2.2.2.2.2.2.2.2.2.2.2.2.2.2.2.1 x.1.2.2.2.2.2.2.2.2.2.2.2.2.2.2.2.2.2.2.2.2.2.2.2.2.2.2.2.2.2.2.2.2.2.1 x.1.2.2.2.2.2.2.2.2.2.2.2.2.2.2.2.2.2.2.2.2.2.2.2.2.2.2.2.2.2.2.2.2.2.2.1 x.1.2.2.2.2.2.2.2.2.2.2.2.2.2.2.2.2.2.2.2.2.2.2.2.2.2.2.2.2.2.2.2.2.2.2.2.1 x.1.2.2.2.2.2.2.2.2.2.2.2.2.2.2.2.2.2.2.2.2.2.2.2.2.2.2.2.2.2.2.2.2.2.2.2.2.1 x.2.1 x.2.2.1).trans e)) (.inr (by rfl))
end
section
open Go.Proofs Go.Proofs.YtbdcblpjemmipaaGreat
abbrev ZiD:Type:=(Int×(List En)×Int×Int×Int×Int×Int×Int×Int×Int×Int×Int×Bool×(List I)×(List I)×(List I)×Int×Int×Bool×Int×Int×Bool×Int×Int×Bool×Int×Int×Bool×Int×Int×(List Int)×Bool×(List I)×Int×Int×(List I)×(List I))
abbrev ZxX:Type:=(Int×(List En)×Int×Int×Int×Int×Int×Int×Int×Int×Int×Bool×(List I)×(List I)×(List I)×Int×Int×Bool×Int×Int×Bool×Int×Int×Bool×Int×Int×Bool×Int×Int×(List Int)×Bool×(List I)×Int×Int×(List I)×(List I))
abbrev ZiE:Type:=(Int×(List En)×Int×Int×Int×Int×Int×Int×Int×Int×Int×Int×Bool×(List I)×(List I)×(List I)×Int×Int×Bool×Int×Int×Bool×Int×Int×Bool×Int×Int×Bool×Int×Int×Bool×(List I)×Int×Int×(List I)×(List I))
abbrev ZxY:Type:=(Int×(List En)×Int×Int×Int×Int×Int×Int×Int×Int×Int×Bool×(List I)×(List I)×(List I)×Int×Int×Bool×Int×Int×Bool×Int×Int×Bool×Int×Int×Bool×Int×Int×Bool×(List I)×Int×Int×(List I)×(List I))
abbrev ZxZ:Type:=(Int×Int×Int×Int×Int×Int×Int×Int×Int×Bool×(List I)×(List I)×(List I)×Int×Int×Bool×Int×Int×Bool×Int×Int×Bool×Int×Int×Bool×Int×Int×(List Int)×Bool×(List I)×Int×Int×(List I)×(List I))
abbrev Zx0:Type:=(Int×Int×Int×Int×Int×Int×Int×Int×Int×Bool×(List I)×(List I)×(List I)×Int×Int×Bool×Int×Int×Bool×Int×Int×Bool×Int×Int×Bool×Int×Int×Bool×(List I)×Int×Int×(List I)×(List I))
abbrev WW:=ZiD
abbrev ZdK:=ZxX
def Zb4 (s0:Int) (s3:List En) (s11 b0 b0_1 b0_2 b0_3 b0_4 b0_5 b0_6 b0_7 b0_8:Int) (b1:Bool) (b1_1 b1_2 b1_3:List I) (b1_4 b1_5:Int) (b2:Bool) (b2_1 b2_2:Int) (b2_3:Bool) (b2_4 b2_5:Int) (b3:Bool) (b3_1 b3_2:Int) (b3_3:Bool) (b3_4 b3_5:Int) (b4:List Int) (b5:Bool) (b5_1:List I) (b5_2 b5_3:Int) (b6 b7:List I):Option (ZiD⊕ZxX):=
 bif decide (s11<(↑b6.length:Int)) then
 bif decide (0≤s11) then
 optC b6[s11.toNat]? none fun d42=>
 optC b6[s11.toNat]? none fun d43=>
 optC (VZ (s3,s0,false,s11,b1_4,b0_4,())) none fun d44=>
 optC (ZD (d43,d44,())) none fun d45=>
 bif decide (0≤s11) then
 optC b6[s11.toNat]? none fun d46=>
 optC b6[s11.toNat]? none fun d47=>
 some
 (Sum.inl
 (s0,s3,IntKind.i64.wrap (s11+1),b0,b0_1,b0_2,b0_3,b0_4,b0_5,b0_6,b0_7,b0_8,b1,b1_1,b1_2,b1_3,b1_4,b1_5,b2,b2_1,b2_2,b2_3,b2_4,b2_5,b3,b3_1,b3_2,
 b3_3,b3_4,b3_5,b4,b5,b5_1,b5_2,b5_3,b6.set s11.toNat d45,b7))
 else none
 else none
 else
 some
 (Sum.inr
 (s0,s3,b0,b0_1,b0_2,b0_3,b0_4,b0_5,b0_6,b0_7,b0_8,b1,b1_1,b1_2,b1_3,b1_4,b1_5,b2,b2_1,b2_2,b2_3,b2_4,b2_5,b3,b3_1,b3_2,b3_3,b3_4,b3_5,b4,b5,b5_1,b5_2,b5_3,b6,
 b7))
def Zk3:WW→Option (WW⊕ZdK):=fun (a,b,c,d,e,f,g,h,i,j,k,l,m,n,o,p,q,r,s,t,u,w,y,z,au,aw,ay,az,bu,bw,bz,cu,cw,cy,cz,du,dw)=>Zb4 a b c d e f g h i j k l m n o p q r s t u w y z au aw ay az bu bw bz cu cw cy cz du dw
def ZfI (x:WW):Option ZdK:=iterO Zk3 Zj x
abbrev WV:=ZiE
abbrev ZdJ:=ZxY
def Zb3 (s0:Int) (s3:List En) (s11 b0 b0_1 b0_2 b0_3 b0_4 b0_5 b0_6 b0_7 b0_8:Int) (b1:Bool) (b1_1 b1_2 b1_3:List I) (b1_4 b1_5:Int) (b2:Bool) (b2_1 b2_2:Int) (b2_3:Bool) (b2_4 b2_5:Int) (b3:Bool) (b3_1 b3_2:Int) (b3_3:Bool) (b3_4 b3_5:Int) (b4:Bool) (b4_1:List I) (b4_2 b4_3:Int) (b5 b6:List I):Option (ZiE⊕ZxY):=
 bif decide (s11<(↑b5.length:Int)) then
 bif decide (0≤s11) then
 optC b5[s11.toNat]? none fun d41=>
 optC b5[s11.toNat]? none fun d42=>
 optC (VZ (s3,s0,false,s11,b1_4,b0_4,())) none fun d43=>
 optC (ZD (d42,d43,())) none fun d44=>
 bif decide (0≤s11) then
 optC b5[s11.toNat]? none fun d45=>
 optC b5[s11.toNat]? none fun d46=>
 some
 (Sum.inl
 (s0,s3,IntKind.i64.wrap (s11+1),b0,b0_1,b0_2,b0_3,b0_4,b0_5,b0_6,b0_7,b0_8,b1,b1_1,b1_2,b1_3,b1_4,b1_5,b2,b2_1,b2_2,b2_3,b2_4,b2_5,b3,b3_1,b3_2,
 b3_3,b3_4,b3_5,b4,b4_1,b4_2,b4_3,b5.set s11.toNat d44,b6))
 else none
 else none
 else
 some
 (Sum.inr
 (s0,s3,b0,b0_1,b0_2,b0_3,b0_4,b0_5,b0_6,b0_7,b0_8,b1,b1_1,b1_2,b1_3,b1_4,b1_5,b2,b2_1,b2_2,b2_3,b2_4,b2_5,b3,b3_1,b3_2,b3_3,b3_4,b3_5,b4,b4_1,b4_2,b4_3,b5,b6))
def Zk2:WV→Option (WV⊕ZdJ):=fun (a,b,c,d,e,f,g,h,i,j,k,l,m,n,o,p,q,r,s,t,u,w,y,z,au,aw,ay,az,bu,bw,bz,cu,cw,cy,cz,du)=>Zb3 a b c d e f g h i j k l m n o p q r s t u w y z au aw ay az bu bw bz cu cw cy cz du
def ZfH (x:WV):Option ZdJ:=iterO Zk2 Zj x
abbrev WY:=ZiD
abbrev ZdM:=ZxZ
def Zb6 (s0:Int) (s3:List En) (s12 b0 b0_1 b0_2 b0_3 b0_4 b0_5 b0_6 b0_7 b0_8:Int) (b1:Bool) (b1_1 b1_2 b1_3:List I) (b1_4 b1_5:Int) (b2:Bool) (b2_1 b2_2:Int) (b2_3:Bool) (b2_4 b2_5:Int) (b3:Bool) (b3_1 b3_2:Int) (b3_3:Bool) (b3_4 b3_5:Int) (b4:List Int) (b5:Bool) (b5_1:List I) (b5_2 b5_3:Int) (b6 b7:List I):Option (ZiD⊕ZxZ):=
 bif decide (s12<(↑b7.length:Int)) then
 bif decide (0≤s12) then
 optC b7[s12.toNat]? none fun d42=>
 optC b7[s12.toNat]? none fun d43=>
 optC (VZ (s3,s0,true,s12,b1_4,b0_4,())) none fun d44=>
 optC (ZD (d43,d44,())) none fun d45=>
 bif decide (0≤s12) then
 optC b7[s12.toNat]? none fun d46=>
 optC b7[s12.toNat]? none fun d47=>
 some
 (Sum.inl
 (s0,s3,IntKind.i64.wrap (s12+1),b0,b0_1,b0_2,b0_3,b0_4,b0_5,b0_6,b0_7,b0_8,b1,b1_1,b1_2,b1_3,b1_4,b1_5,b2,b2_1,b2_2,b2_3,b2_4,b2_5,b3,b3_1,b3_2,
 b3_3,b3_4,b3_5,b4,b5,b5_1,b5_2,b5_3,b6,b7.set s12.toNat d45))
 else none
 else none
 else
 some
 (Sum.inr
 (b0,b0_1,b0_2,b0_3,b0_4,b0_5,b0_6,b0_7,b0_8,b1,b1_1,b1_2,b1_3,b1_4,b1_5,b2,b2_1,b2_2,b2_3,b2_4,b2_5,b3,b3_1,b3_2,b3_3,b3_4,b3_5,b4,b5,b5_1,b5_2,b5_3,b6,b7))
def Zk5:WY→Option (WY⊕ZdM):=fun (a,b,c,d,e,f,g,h,i,j,k,l,m,n,o,p,q,r,s,t,u,w,y,z,au,aw,ay,az,bu,bw,bz,cu,cw,cy,cz,du,dw)=>Zb6 a b c d e f g h i j k l m n o p q r s t u w y z au aw ay az bu bw bz cu cw cy cz du dw
def ZfK (x:WY):Option ZdM:=iterO Zk5 Zj x
abbrev WX:=ZiE
abbrev ZdL:=Zx0
def Zb5 (s0:Int) (s3:List En) (s12 b0 b0_1 b0_2 b0_3 b0_4 b0_5 b0_6 b0_7 b0_8:Int) (b1:Bool) (b1_1 b1_2 b1_3:List I) (b1_4 b1_5:Int) (b2:Bool) (b2_1 b2_2:Int) (b2_3:Bool) (b2_4 b2_5:Int) (b3:Bool) (b3_1 b3_2:Int) (b3_3:Bool) (b3_4 b3_5:Int) (b4:Bool) (b4_1:List I) (b4_2 b4_3:Int) (b5 b6:List I):Option (ZiE⊕Zx0):=
 bif decide (s12<(↑b6.length:Int)) then
 bif decide (0≤s12) then
 optC b6[s12.toNat]? none fun d41=>
 optC b6[s12.toNat]? none fun d42=>
 optC (VZ (s3,s0,true,s12,b1_4,b0_4,())) none fun d43=>
 optC (ZD (d42,d43,())) none fun d44=>
 bif decide (0≤s12) then
 optC b6[s12.toNat]? none fun d45=>
 optC b6[s12.toNat]? none fun d46=>
 some
 (Sum.inl
 (s0,s3,IntKind.i64.wrap (s12+1),b0,b0_1,b0_2,b0_3,b0_4,b0_5,b0_6,b0_7,b0_8,b1,b1_1,b1_2,b1_3,b1_4,b1_5,b2,b2_1,b2_2,b2_3,b2_4,b2_5,b3,b3_1,b3_2,
 b3_3,b3_4,b3_5,b4,b4_1,b4_2,b4_3,b5,b6.set s12.toNat d44))
 else none
 else none
 else
 some
 (Sum.inr (b0,b0_1,b0_2,b0_3,b0_4,b0_5,b0_6,b0_7,b0_8,b1,b1_1,b1_2,b1_3,b1_4,b1_5,b2,b2_1,b2_2,b2_3,b2_4,b2_5,b3,b3_1,b3_2,b3_3,b3_4,b3_5,b4,b4_1,b4_2,b4_3,b5,b6))
def Zk4:WX→Option (WX⊕ZdL):=fun (a,b,c,d,e,f,g,h,i,j,k,l,m,n,o,p,q,r,s,t,u,w,y,z,au,aw,ay,az,bu,bw,bz,cu,cw,cy,cz,du)=>Zb5 a b c d e f g h i j k l m n o p q r s t u w y z au aw ay az bu bw bz cu cw cy cz du
def ZfJ (x:WX):Option ZdL:=iterO Zk4 Zj x
def ZzB (a0:Int) (a1:A) (a2:E) (a3:List En):Option O:=
 optC (Zaz (a2.2.2.2.2.2,a1.2.2.2.2.1,())) none fun d9=>
 bif d9 then
 optC (Zaz (a2.2.2.2.2.1,a1.2.2.2.2.1,())) none fun d10=>
 bif d10 then some (((false,[],[],[],0,0):E),((false,[],[],[],0,0):E),[11],[],[])
 else
 bif decide (((List.length (α:=I) [])+List.length a2.2.2.1+1)*16≤lim) then
 bif decide (((List.length (α:=I) [])+List.length a2.2.2.2.1+1)*16≤lim) then
 optC
 (ZfI
 (a0,a3,0,a1.1,a1.2.1,a1.2.2.1,a1.2.2.2.1,a1.2.2.2.2.1,a1.2.2.2.2.2.1,a1.2.2.2.2.2.2.1,
 a1.2.2.2.2.2.2.2.1,a1.2.2.2.2.2.2.2.2,a2.1,a2.2.1,a2.2.2.1,a2.2.2.2.1,a2.2.2.2.2.1,a2.2.2.2.2.2,
 false,0,0,false,0,0,false,0,0,false,0,0,[11],a2.1,a2.2.1,a2.2.2.2.2.1,a2.2.2.2.2.2,[]++a2.2.2.1,
 []++a2.2.2.2.1))
 none fun d11=>
 optC (ZfK (d11.1,d11.2.1,0,d11.2.2)) none fun d12=>
 optC (Zl1 (d12.2.2.2.2.2.2.2.2.2.2.2.2.2.1,[d12.2.2.2.2.1],())) none fun d13=>
 optC (Zl1 (d12.2.2.2.2.2.2.2.2.2.2.2.2.2.2.1,[d12.2.2.2.2.1],())) none fun d14=>
 some
 ((d12.2.2.2.2.2.2.2.2.2.2.2.2.2.2.2.2.2.2.2.2.2.2.2.2.2.2.2.2.1,
 d12.2.2.2.2.2.2.2.2.2.2.2.2.2.2.2.2.2.2.2.2.2.2.2.2.2.2.2.2.2.1,
 d12.2.2.2.2.2.2.2.2.2.2.2.2.2.2.2.2.2.2.2.2.2.2.2.2.2.2.2.2.2.2.2.2.1,
 d12.2.2.2.2.2.2.2.2.2.2.2.2.2.2.2.2.2.2.2.2.2.2.2.2.2.2.2.2.2.2.2.2.2,d13,d14),
 (d12.2.2.2.2.2.2.2.2.2.2.2.2.2.2.2.2.2.2.2.2.2.2.2.2.1,[],[],[],
 d12.2.2.2.2.2.2.2.2.2.2.2.2.2.2.2.2.2.2.2.2.2.2.2.2.2.1,
 d12.2.2.2.2.2.2.2.2.2.2.2.2.2.2.2.2.2.2.2.2.2.2.2.2.2.2.1),
 d12.2.2.2.2.2.2.2.2.2.2.2.2.2.2.2.2.2.2.2.2.2.2.2.2.2.2.2.1,[],[])
 else none
 else none
 else
 optC (Zaz (a2.2.2.2.2.1,a1.2.2.2.2.1,())) none fun d10=>
 bif d10 then some (((false,[],[],[],0,0):E),((false,[],[],[],0,0):E),[],[],[])
 else
 bif decide (((List.length (α:=I) [])+List.length a2.2.2.1+1)*16≤lim) then
 bif decide (((List.length (α:=I) [])+List.length a2.2.2.2.1+1)*16≤lim) then
 optC
 (ZfH
 (a0,a3,0,a1.1,a1.2.1,a1.2.2.1,a1.2.2.2.1,a1.2.2.2.2.1,a1.2.2.2.2.2.1,a1.2.2.2.2.2.2.1,
 a1.2.2.2.2.2.2.2.1,a1.2.2.2.2.2.2.2.2,a2.1,a2.2.1,a2.2.2.1,a2.2.2.2.1,a2.2.2.2.2.1,a2.2.2.2.2.2,
 false,0,0,false,0,0,false,0,0,false,0,0,a2.1,a2.2.1,a2.2.2.2.2.1,a2.2.2.2.2.2,[]++a2.2.2.1,
 []++a2.2.2.2.1))
 none fun d11=>
 optC (ZfJ (d11.1,d11.2.1,0,d11.2.2)) none fun d12=>
 optC (Zl1 (d12.2.2.2.2.2.2.2.2.2.2.2.2.2.1,[d12.2.2.2.2.1],())) none fun d13=>
 optC (Zl1 (d12.2.2.2.2.2.2.2.2.2.2.2.2.2.2.1,[d12.2.2.2.2.1],())) none fun d14=>
 some
 ((d12.2.2.2.2.2.2.2.2.2.2.2.2.2.2.2.2.2.2.2.2.2.2.2.2.2.2.2.1,
 d12.2.2.2.2.2.2.2.2.2.2.2.2.2.2.2.2.2.2.2.2.2.2.2.2.2.2.2.2.1,
 d12.2.2.2.2.2.2.2.2.2.2.2.2.2.2.2.2.2.2.2.2.2.2.2.2.2.2.2.2.2.2.2.1,
 d12.2.2.2.2.2.2.2.2.2.2.2.2.2.2.2.2.2.2.2.2.2.2.2.2.2.2.2.2.2.2.2.2,d13,d14),
 (d12.2.2.2.2.2.2.2.2.2.2.2.2.2.2.2.2.2.2.2.2.2.2.2.2.1,[],[],[],
 d12.2.2.2.2.2.2.2.2.2.2.2.2.2.2.2.2.2.2.2.2.2.2.2.2.2.1,
 d12.2.2.2.2.2.2.2.2.2.2.2.2.2.2.2.2.2.2.2.2.2.2.2.2.2.2.1),
 [],[],[])
 else none
 else none
def ZrJ (x:(Int×(A×(E×((List En)×Unit))))):Option O:=ZzB x.1 x.2.1 x.2.2.1 x.2.2.2.1
end
def gmap (l:List En) (t:Int) (ar:Bool) (must m:Int) (r:List I):List I:=r.mapIdx fun i d=>rJoin d (gainV l t ar i must m)
theorem ZaE {s0:Int} {s0_1:Int} {s0_2:Int} {s0_3:Int} {s0_4:Int} {s0_5:Int} {s0_6:Int} {s0_7:Int} {s0_8:Int} {s0_9:(List Int)} {s0_10:(List Int)} {s0_11:Int} {s0_12:(List C)} {s0_13:Int} {s0_14:Int} {s0_15:Bool} {s0_16:(List I)} {s0_17:(List I)} {s0_18:(List I)} {s0_19:Int} {s0_20:Int} {s0_21:(List En)} {s0_22:Bool} {s0_23:(List I)} {s0_24:(List I)} {s0_25:(List I)} {s0_26:Int} {s0_27:Int} {s0_28:Bool} {s0_29:(List I)} {s0_30:(List I)} {s0_31:(List I)} {s0_32:Int} {s0_33:Int} {s0_34:(List Int)} {s0_35:(List En)} {s0_36:(List Ac)} {s2:Bool} {l:List I} (hh:0≤s0_19∧s0_19<2147483648) (he:∀ e∈s0_21,entOK e) (hn:s0_21.length<1000000000000) (hl:l.length<9223372036854775807):ZbC (s0,s0_1,s0_2,s0_3,s0_4,s0_5,s0_6,s0_7,s0_8,s0_9,s0_10,s0_11,s0_12,s0_13,s0_14,s0_15,s0_16,s0_17,s0_18,s0_19,s0_20,s0_21,s0_22,s0_23,s0_24,s0_25,s0_26,s0_27,s0_28,s0_29,s0_30,s0_31,s0_32,s0_33,s0_34,s0_35,s0_36,s2,(l.length:Int),0,l)=some (gmap s0_21 s0_13 s2 s0_19 s0_4 l):=by
 unfold ZbC
 refine Zre (fun i r=>((s0,s0_1,s0_2,s0_3,s0_4,s0_5,s0_6,s0_7,s0_8,s0_9,s0_10,s0_11,s0_12,s0_13,s0_14,s0_15,s0_16,s0_17,s0_18,s0_19,s0_20,s0_21,s0_22,s0_23,s0_24,s0_25,s0_26,s0_27,s0_28,s0_29,s0_30,s0_31,s0_32,s0_33,s0_34,s0_35,s0_36,s2,(l.length:Int),(i:Int),r):(Int×Int×Int×Int×Int×Int×Int×Int×Int×(List Int)×(List Int)×Int×(List C)×Int×Int×Bool×(List I)×(List I)×(List I)×Int×Int×(List En)×Bool×(List I)×(List I)×(List I)×Int×Int×Bool×(List I)×(List I)×(List I)×Int×Int×(List Int)×(List En)×(List Ac)×Bool×Int×Int×(List I)))) (fun i d=>rJoin d (gainV s0_21 s0_13 s2 i s0_19 s0_4)) (fun r=>(r:(List I))) l ?_ ?_ hl
 ·intro i d r hi hr hd
  have hj:i<l.length:=(List.getElem?_eq_some_iff.1 hi).1
  have e1:decide ((i:Int)<(l.length:Int))=true:=decide_eq_true (by omega)
  have e2:decide (0≤(i:Int))=true:=decide_eq_true (by omega)
  have e3:Int.toNat (i:Int)=i:=Int.toNat_natCast i
  have e4:=Zm hj (Nat.le_of_lt hl)
  show Yf (s0) (s0_1) (s0_2) (s0_3) (s0_4) (s0_5) (s0_6) (s0_7) (s0_8) (s0_9) (s0_10) (s0_11) (s0_12) (s0_13) (s0_14) (s0_15) (s0_16) (s0_17) (s0_18) (s0_19) (s0_20) (s0_21) (s0_22) (s0_23) (s0_24) (s0_25) (s0_26) (s0_27) (s0_28) (s0_29) (s0_30) (s0_31) (s0_32) (s0_33) (s0_34) (s0_35) (s0_36) (s2) ((l.length:Int)) ((i:Int)) (r)=_
  unfold Yf Zy3 ZF
  simp only [e1,e2,e3,e4,hd,cond_true,Zb,ZUo _ _ _ _ _ _ hh he (by omega),ZbF,Zc2 (ZuJ he)]
 ·intro r hr
  have e1:decide ((l.length:Int)<(l.length:Int))=false:=decide_eq_false (by omega)
  show Yf (s0) (s0_1) (s0_2) (s0_3) (s0_4) (s0_5) (s0_6) (s0_7) (s0_8) (s0_9) (s0_10) (s0_11) (s0_12) (s0_13) (s0_14) (s0_15) (s0_16) (s0_17) (s0_18) (s0_19) (s0_20) (s0_21) (s0_22) (s0_23) (s0_24) (s0_25) (s0_26) (s0_27) (s0_28) (s0_29) (s0_30) (s0_31) (s0_32) (s0_33) (s0_34) (s0_35) (s0_36) (s2) ((l.length:Int)) ((l.length:Int)) (r)=_
  unfold Yf
  rw [e1]
  rfl
theorem ZFN {s0:Int} {s3:(List En)} {b0:Int} {b0_1:Int} {b0_2:Int} {b0_3:Int} {b0_4:Int} {b0_5:Int} {b0_6:Int} {b0_7:Int} {b0_8:Int} {b1:Bool} {b1_1:(List I)} {b1_2:(List I)} {b1_3:(List I)} {b1_4:Int} {b1_5:Int} {b2:Bool} {b2_1:Int} {b2_2:Int} {b2_3:Bool} {b2_4:Int} {b2_5:Int} {b3:Bool} {b3_1:Int} {b3_2:Int} {b3_3:Bool} {b3_4:Int} {b3_5:Int} {b4:Bool} {b4_1:(List I)} {b4_2:Int} {b4_3:Int} {b6:(List I)} {l:List I} (hh:0≤b1_4∧b1_4<2147483648) (he:∀ e∈s3,entOK e) (hn:s3.length<1000000000000) (hl:l.length<9223372036854775807):ZfH (s0,s3,0,b0,b0_1,b0_2,b0_3,b0_4,b0_5,b0_6,b0_7,b0_8,b1,b1_1,b1_2,b1_3,b1_4,b1_5,b2,b2_1,b2_2,b2_3,b2_4,b2_5,b3,b3_1,b3_2,b3_3,b3_4,b3_5,b4,b4_1,b4_2,b4_3,l,b6)=some (s0,s3,b0,b0_1,b0_2,b0_3,b0_4,b0_5,b0_6,b0_7,b0_8,b1,b1_1,b1_2,b1_3,b1_4,b1_5,b2,b2_1,b2_2,b2_3,b2_4,b2_5,b3,b3_1,b3_2,b3_3,b3_4,b3_5,b4,b4_1,b4_2,b4_3,(gmap s3 s0 Bool.false b1_4 b0_4 l),b6):=by
 unfold ZfH
 refine Zre (fun i r=>((s0,s3,(i:Int),b0,b0_1,b0_2,b0_3,b0_4,b0_5,b0_6,b0_7,b0_8,b1,b1_1,b1_2,b1_3,b1_4,b1_5,b2,b2_1,b2_2,b2_3,b2_4,b2_5,b3,b3_1,b3_2,b3_3,b3_4,b3_5,b4,b4_1,b4_2,b4_3,r,b6):(Int×(List En)×Int×Int×Int×Int×Int×Int×Int×Int×Int×Int×Bool×(List I)×(List I)×(List I)×Int×Int×Bool×Int×Int×Bool×Int×Int×Bool×Int×Int×Bool×Int×Int×Bool×(List I)×Int×Int×(List I)×(List I)))) (fun i d=>rJoin d (gainV s3 s0 Bool.false i b1_4 b0_4)) (fun r=>((s0,s3,b0,b0_1,b0_2,b0_3,b0_4,b0_5,b0_6,b0_7,b0_8,b1,b1_1,b1_2,b1_3,b1_4,b1_5,b2,b2_1,b2_2,b2_3,b2_4,b2_5,b3,b3_1,b3_2,b3_3,b3_4,b3_5,b4,b4_1,b4_2,b4_3,r,b6):(Int×(List En)×Int×Int×Int×Int×Int×Int×Int×Int×Int×Bool×(List I)×(List I)×(List I)×Int×Int×Bool×Int×Int×Bool×Int×Int×Bool×Int×Int×Bool×Int×Int×Bool×(List I)×Int×Int×(List I)×(List I)))) l ?_ ?_ hl
 ·intro i d r hi hr hd
  have hj:i<l.length:=(List.getElem?_eq_some_iff.1 hi).1
  have e1:decide ((i:Int)<(r.length:Int))=true:=decide_eq_true (by omega)
  have e2:decide (0≤(i:Int))=true:=decide_eq_true (by omega)
  have e3:Int.toNat (i:Int)=i:=Int.toNat_natCast i
  have e4:=Zm hj (Nat.le_of_lt hl)
  show Zb3 (s0) (s3) ((i:Int)) (b0) (b0_1) (b0_2) (b0_3) (b0_4) (b0_5) (b0_6) (b0_7) (b0_8) (b1) (b1_1) (b1_2) (b1_3) (b1_4) (b1_5) (b2) (b2_1) (b2_2) (b2_3) (b2_4) (b2_5) (b3) (b3_1) (b3_2) (b3_3) (b3_4) (b3_5) (b4) (b4_1) (b4_2) (b4_3) (r) (b6)=_
  unfold Zb3 VZ ZD
  simp only [e1,e2,e3,e4,hd,cond_true,Zb,ZoG _ _ _ _ _ _ hh he hn,VW,Zc2 (ZuJ he)]
 ·intro r hr
  have e1:decide ((l.length:Int)<(r.length:Int))=false:=decide_eq_false (by omega)
  show Zb3 (s0) (s3) ((l.length:Int)) (b0) (b0_1) (b0_2) (b0_3) (b0_4) (b0_5) (b0_6) (b0_7) (b0_8) (b1) (b1_1) (b1_2) (b1_3) (b1_4) (b1_5) (b2) (b2_1) (b2_2) (b2_3) (b2_4) (b2_5) (b3) (b3_1) (b3_2) (b3_3) (b3_4) (b3_5) (b4) (b4_1) (b4_2) (b4_3) (r) (b6)=_
  unfold Zb3
  rw [e1]
  rfl
theorem ZFO {s0:Int} {s3:(List En)} {b0:Int} {b0_1:Int} {b0_2:Int} {b0_3:Int} {b0_4:Int} {b0_5:Int} {b0_6:Int} {b0_7:Int} {b0_8:Int} {b1:Bool} {b1_1:(List I)} {b1_2:(List I)} {b1_3:(List I)} {b1_4:Int} {b1_5:Int} {b2:Bool} {b2_1:Int} {b2_2:Int} {b2_3:Bool} {b2_4:Int} {b2_5:Int} {b3:Bool} {b3_1:Int} {b3_2:Int} {b3_3:Bool} {b3_4:Int} {b3_5:Int} {b4:(List Int)} {b5:Bool} {b5_1:(List I)} {b5_2:Int} {b5_3:Int} {b7:(List I)} {l:List I} (hh:0≤b1_4∧b1_4<2147483648) (he:∀ e∈s3,entOK e) (hn:s3.length<1000000000000) (hl:l.length<9223372036854775807):ZfI (s0,s3,0,b0,b0_1,b0_2,b0_3,b0_4,b0_5,b0_6,b0_7,b0_8,b1,b1_1,b1_2,b1_3,b1_4,b1_5,b2,b2_1,b2_2,b2_3,b2_4,b2_5,b3,b3_1,b3_2,b3_3,b3_4,b3_5,b4,b5,b5_1,b5_2,b5_3,l,b7)=some (s0,s3,b0,b0_1,b0_2,b0_3,b0_4,b0_5,b0_6,b0_7,b0_8,b1,b1_1,b1_2,b1_3,b1_4,b1_5,b2,b2_1,b2_2,b2_3,b2_4,b2_5,b3,b3_1,b3_2,b3_3,b3_4,b3_5,b4,b5,b5_1,b5_2,b5_3,(gmap s3 s0 Bool.false b1_4 b0_4 l),b7):=by
 unfold ZfI
 refine Zre (fun i r=>((s0,s3,(i:Int),b0,b0_1,b0_2,b0_3,b0_4,b0_5,b0_6,b0_7,b0_8,b1,b1_1,b1_2,b1_3,b1_4,b1_5,b2,b2_1,b2_2,b2_3,b2_4,b2_5,b3,b3_1,b3_2,b3_3,b3_4,b3_5,b4,b5,b5_1,b5_2,b5_3,r,b7):(Int×(List En)×Int×Int×Int×Int×Int×Int×Int×Int×Int×Int×Bool×(List I)×(List I)×(List I)×Int×Int×Bool×Int×Int×Bool×Int×Int×Bool×Int×Int×Bool×Int×Int×(List Int)×Bool×(List I)×Int×Int×(List I)×(List I)))) (fun i d=>rJoin d (gainV s3 s0 Bool.false i b1_4 b0_4)) (fun r=>((s0,s3,b0,b0_1,b0_2,b0_3,b0_4,b0_5,b0_6,b0_7,b0_8,b1,b1_1,b1_2,b1_3,b1_4,b1_5,b2,b2_1,b2_2,b2_3,b2_4,b2_5,b3,b3_1,b3_2,b3_3,b3_4,b3_5,b4,b5,b5_1,b5_2,b5_3,r,b7):(Int×(List En)×Int×Int×Int×Int×Int×Int×Int×Int×Int×Bool×(List I)×(List I)×(List I)×Int×Int×Bool×Int×Int×Bool×Int×Int×Bool×Int×Int×Bool×Int×Int×(List Int)×Bool×(List I)×Int×Int×(List I)×(List I)))) l ?_ ?_ hl
 ·intro i d r hi hr hd
  have hj:i<l.length:=(List.getElem?_eq_some_iff.1 hi).1
  have e1:decide ((i:Int)<(r.length:Int))=true:=decide_eq_true (by omega)
  have e2:decide (0≤(i:Int))=true:=decide_eq_true (by omega)
  have e3:Int.toNat (i:Int)=i:=Int.toNat_natCast i
  have e4:=Zm hj (Nat.le_of_lt hl)
  show Zb4 (s0) (s3) ((i:Int)) (b0) (b0_1) (b0_2) (b0_3) (b0_4) (b0_5) (b0_6) (b0_7) (b0_8) (b1) (b1_1) (b1_2) (b1_3) (b1_4) (b1_5) (b2) (b2_1) (b2_2) (b2_3) (b2_4) (b2_5) (b3) (b3_1) (b3_2) (b3_3) (b3_4) (b3_5) (b4) (b5) (b5_1) (b5_2) (b5_3) (r) (b7)=_
  unfold Zb4 VZ ZD
  simp only [e1,e2,e3,e4,hd,cond_true,Zb,ZoG _ _ _ _ _ _ hh he hn,VW,Zc2 (ZuJ he)]
 ·intro r hr
  have e1:decide ((l.length:Int)<(r.length:Int))=false:=decide_eq_false (by omega)
  show Zb4 (s0) (s3) ((l.length:Int)) (b0) (b0_1) (b0_2) (b0_3) (b0_4) (b0_5) (b0_6) (b0_7) (b0_8) (b1) (b1_1) (b1_2) (b1_3) (b1_4) (b1_5) (b2) (b2_1) (b2_2) (b2_3) (b2_4) (b2_5) (b3) (b3_1) (b3_2) (b3_3) (b3_4) (b3_5) (b4) (b5) (b5_1) (b5_2) (b5_3) (r) (b7)=_
  unfold Zb4
  rw [e1]
  rfl
theorem ZFP {s0:Int} {s3:(List En)} {b0:Int} {b0_1:Int} {b0_2:Int} {b0_3:Int} {b0_4:Int} {b0_5:Int} {b0_6:Int} {b0_7:Int} {b0_8:Int} {b1:Bool} {b1_1:(List I)} {b1_2:(List I)} {b1_3:(List I)} {b1_4:Int} {b1_5:Int} {b2:Bool} {b2_1:Int} {b2_2:Int} {b2_3:Bool} {b2_4:Int} {b2_5:Int} {b3:Bool} {b3_1:Int} {b3_2:Int} {b3_3:Bool} {b3_4:Int} {b3_5:Int} {b4:Bool} {b4_1:(List I)} {b4_2:Int} {b4_3:Int} {b5:(List I)} {l:List I} (hh:0≤b1_4∧b1_4<2147483648) (he:∀ e∈s3,entOK e) (hn:s3.length<1000000000000) (hl:l.length<9223372036854775807):ZfJ (s0,s3,0,b0,b0_1,b0_2,b0_3,b0_4,b0_5,b0_6,b0_7,b0_8,b1,b1_1,b1_2,b1_3,b1_4,b1_5,b2,b2_1,b2_2,b2_3,b2_4,b2_5,b3,b3_1,b3_2,b3_3,b3_4,b3_5,b4,b4_1,b4_2,b4_3,b5,l)=some (b0,b0_1,b0_2,b0_3,b0_4,b0_5,b0_6,b0_7,b0_8,b1,b1_1,b1_2,b1_3,b1_4,b1_5,b2,b2_1,b2_2,b2_3,b2_4,b2_5,b3,b3_1,b3_2,b3_3,b3_4,b3_5,b4,b4_1,b4_2,b4_3,b5,(gmap s3 s0 Bool.true b1_4 b0_4 l)):=by
 unfold ZfJ
 refine Zre (fun i r=>((s0,s3,(i:Int),b0,b0_1,b0_2,b0_3,b0_4,b0_5,b0_6,b0_7,b0_8,b1,b1_1,b1_2,b1_3,b1_4,b1_5,b2,b2_1,b2_2,b2_3,b2_4,b2_5,b3,b3_1,b3_2,b3_3,b3_4,b3_5,b4,b4_1,b4_2,b4_3,b5,r):(Int×(List En)×Int×Int×Int×Int×Int×Int×Int×Int×Int×Int×Bool×(List I)×(List I)×(List I)×Int×Int×Bool×Int×Int×Bool×Int×Int×Bool×Int×Int×Bool×Int×Int×Bool×(List I)×Int×Int×(List I)×(List I)))) (fun i d=>rJoin d (gainV s3 s0 Bool.true i b1_4 b0_4)) (fun r=>((b0,b0_1,b0_2,b0_3,b0_4,b0_5,b0_6,b0_7,b0_8,b1,b1_1,b1_2,b1_3,b1_4,b1_5,b2,b2_1,b2_2,b2_3,b2_4,b2_5,b3,b3_1,b3_2,b3_3,b3_4,b3_5,b4,b4_1,b4_2,b4_3,b5,r):(Int×Int×Int×Int×Int×Int×Int×Int×Int×Bool×(List I)×(List I)×(List I)×Int×Int×Bool×Int×Int×Bool×Int×Int×Bool×Int×Int×Bool×Int×Int×Bool×(List I)×Int×Int×(List I)×(List I)))) l ?_ ?_ hl
 ·intro i d r hi hr hd
  have hj:i<l.length:=(List.getElem?_eq_some_iff.1 hi).1
  have e1:decide ((i:Int)<(r.length:Int))=true:=decide_eq_true (by omega)
  have e2:decide (0≤(i:Int))=true:=decide_eq_true (by omega)
  have e3:Int.toNat (i:Int)=i:=Int.toNat_natCast i
  have e4:=Zm hj (Nat.le_of_lt hl)
  show Zb5 (s0) (s3) ((i:Int)) (b0) (b0_1) (b0_2) (b0_3) (b0_4) (b0_5) (b0_6) (b0_7) (b0_8) (b1) (b1_1) (b1_2) (b1_3) (b1_4) (b1_5) (b2) (b2_1) (b2_2) (b2_3) (b2_4) (b2_5) (b3) (b3_1) (b3_2) (b3_3) (b3_4) (b3_5) (b4) (b4_1) (b4_2) (b4_3) (b5) (r)=_
  unfold Zb5 VZ ZD
  simp only [e1,e2,e3,e4,hd,cond_true,Zb,ZoG _ _ _ _ _ _ hh he hn,VW,Zc2 (ZuJ he)]
 ·intro r hr
  have e1:decide ((l.length:Int)<(r.length:Int))=false:=decide_eq_false (by omega)
  show Zb5 (s0) (s3) ((l.length:Int)) (b0) (b0_1) (b0_2) (b0_3) (b0_4) (b0_5) (b0_6) (b0_7) (b0_8) (b1) (b1_1) (b1_2) (b1_3) (b1_4) (b1_5) (b2) (b2_1) (b2_2) (b2_3) (b2_4) (b2_5) (b3) (b3_1) (b3_2) (b3_3) (b3_4) (b3_5) (b4) (b4_1) (b4_2) (b4_3) (b5) (r)=_
  unfold Zb5
  rw [e1]
  rfl
theorem ZFQ {s0:Int} {s3:(List En)} {b0:Int} {b0_1:Int} {b0_2:Int} {b0_3:Int} {b0_4:Int} {b0_5:Int} {b0_6:Int} {b0_7:Int} {b0_8:Int} {b1:Bool} {b1_1:(List I)} {b1_2:(List I)} {b1_3:(List I)} {b1_4:Int} {b1_5:Int} {b2:Bool} {b2_1:Int} {b2_2:Int} {b2_3:Bool} {b2_4:Int} {b2_5:Int} {b3:Bool} {b3_1:Int} {b3_2:Int} {b3_3:Bool} {b3_4:Int} {b3_5:Int} {b4:(List Int)} {b5:Bool} {b5_1:(List I)} {b5_2:Int} {b5_3:Int} {b6:(List I)} {l:List I} (hh:0≤b1_4∧b1_4<2147483648) (he:∀ e∈s3,entOK e) (hn:s3.length<1000000000000) (hl:l.length<9223372036854775807):ZfK (s0,s3,0,b0,b0_1,b0_2,b0_3,b0_4,b0_5,b0_6,b0_7,b0_8,b1,b1_1,b1_2,b1_3,b1_4,b1_5,b2,b2_1,b2_2,b2_3,b2_4,b2_5,b3,b3_1,b3_2,b3_3,b3_4,b3_5,b4,b5,b5_1,b5_2,b5_3,b6,l)=some (b0,b0_1,b0_2,b0_3,b0_4,b0_5,b0_6,b0_7,b0_8,b1,b1_1,b1_2,b1_3,b1_4,b1_5,b2,b2_1,b2_2,b2_3,b2_4,b2_5,b3,b3_1,b3_2,b3_3,b3_4,b3_5,b4,b5,b5_1,b5_2,b5_3,b6,(gmap s3 s0 Bool.true b1_4 b0_4 l)):=by
 unfold ZfK
 refine Zre (fun i r=>((s0,s3,(i:Int),b0,b0_1,b0_2,b0_3,b0_4,b0_5,b0_6,b0_7,b0_8,b1,b1_1,b1_2,b1_3,b1_4,b1_5,b2,b2_1,b2_2,b2_3,b2_4,b2_5,b3,b3_1,b3_2,b3_3,b3_4,b3_5,b4,b5,b5_1,b5_2,b5_3,b6,r):(Int×(List En)×Int×Int×Int×Int×Int×Int×Int×Int×Int×Int×Bool×(List I)×(List I)×(List I)×Int×Int×Bool×Int×Int×Bool×Int×Int×Bool×Int×Int×Bool×Int×Int×(List Int)×Bool×(List I)×Int×Int×(List I)×(List I)))) (fun i d=>rJoin d (gainV s3 s0 Bool.true i b1_4 b0_4)) (fun r=>((b0,b0_1,b0_2,b0_3,b0_4,b0_5,b0_6,b0_7,b0_8,b1,b1_1,b1_2,b1_3,b1_4,b1_5,b2,b2_1,b2_2,b2_3,b2_4,b2_5,b3,b3_1,b3_2,b3_3,b3_4,b3_5,b4,b5,b5_1,b5_2,b5_3,b6,r):(Int×Int×Int×Int×Int×Int×Int×Int×Int×Bool×(List I)×(List I)×(List I)×Int×Int×Bool×Int×Int×Bool×Int×Int×Bool×Int×Int×Bool×Int×Int×(List Int)×Bool×(List I)×Int×Int×(List I)×(List I)))) l ?_ ?_ hl
 ·intro i d r hi hr hd
  have hj:i<l.length:=(List.getElem?_eq_some_iff.1 hi).1
  have e1:decide ((i:Int)<(r.length:Int))=true:=decide_eq_true (by omega)
  have e2:decide (0≤(i:Int))=true:=decide_eq_true (by omega)
  have e3:Int.toNat (i:Int)=i:=Int.toNat_natCast i
  have e4:=Zm hj (Nat.le_of_lt hl)
  show Zb6 (s0) (s3) ((i:Int)) (b0) (b0_1) (b0_2) (b0_3) (b0_4) (b0_5) (b0_6) (b0_7) (b0_8) (b1) (b1_1) (b1_2) (b1_3) (b1_4) (b1_5) (b2) (b2_1) (b2_2) (b2_3) (b2_4) (b2_5) (b3) (b3_1) (b3_2) (b3_3) (b3_4) (b3_5) (b4) (b5) (b5_1) (b5_2) (b5_3) (b6) (r)=_
  unfold Zb6 VZ ZD
  simp only [e1,e2,e3,e4,hd,cond_true,Zb,ZoG _ _ _ _ _ _ hh he hn,VW,Zc2 (ZuJ he)]
 ·intro r hr
  have e1:decide ((l.length:Int)<(r.length:Int))=false:=decide_eq_false (by omega)
  show Zb6 (s0) (s3) ((l.length:Int)) (b0) (b0_1) (b0_2) (b0_3) (b0_4) (b0_5) (b0_6) (b0_7) (b0_8) (b1) (b1_1) (b1_2) (b1_3) (b1_4) (b1_5) (b2) (b2_1) (b2_2) (b2_3) (b2_4) (b2_5) (b3) (b3_1) (b3_2) (b3_3) (b3_4) (b3_5) (b4) (b5) (b5_1) (b5_2) (b5_3) (b6) (r)=_
  unfold Zb6
  rw [e1]
  rfl
section
open Go.Proofs Go.Proofs.YtbdcblpjemmipaaGreat
def ZMi:List Sh:=[.dat (.int .i64)]
def ZPt:List Con:=[]
def Zrc (a0:Int):Option Int:=
 bif a0==1 then some 5
 else bif a0==2 then some 6 else bif a0==3 then some 4 else bif a0==4 then some 3 else bif a0==5 then some 1 else bif a0==6 then some 2 else some a0
theorem ZVY (a0:Int):evGX (cxU ZPt [] 40 1048576) keeps 8 139 ZMi (.dat (.int .i64)) ((a0,()):(Int×Unit))=Zrc a0:=by kernel_rfl
def Kb (x:Int×Unit):Option Int:=Zrc x.1
def ZMr:List AV→Prog AV:=conP true ZMi (.dat (.int .i64)) Kb
theorem ZV9:Zd Tryz.prog 139 ZMr:=Zc (calU ZPt [] 40 1048576 8 139) true (by rfl) (by rfl) (fun x r e=>(Zg _ _ _ _ _ _ _).trans ((ZVY x.1).trans e)) (.inl rfl)
end
section
open Go.Proofs Go.Proofs.YtbdcblpjemmipaaGreat
def ZJn:List Sh:=[.dat tU,.dat (.int .i64)]
def ZMU:List Con:=[]
def ZoA (a0:U) (a1:Int):Option E:=
 some ((false,[],[],[],0,0):E)
theorem ZUv (a0:U) (a1:Int):evGX (cxU ZMU [] 40 1048576) keeps 8 77 ZJn (.dat tE) ((a0,a1,()):(U×(Int×Unit)))=ZoA a0 a1:=by kernel_rfl
def ZrE (x:U×(Int×Unit)):Option E:=ZoA x.1 x.2.1
def Zzh:List AV→Prog AV:=conP true ZJn (.dat tE) ZrE
theorem ZKN:Zd Tryz.prog 77 Zzh:=Zc (calU ZMU [] 40 1048576 8 77) true (by rfl) (by rfl) (fun x r e=>(Zg _ _ _ _ _ _ _).trans ((ZUv x.1 x.2.1).trans e)) (.inl rfl)
end
section
open Go.Proofs Go.Proofs.YtbdcblpjemmipaaGreat
def ZMe:List Sh:=[.dat tU,.dat (.int .i64),.dat (.int .i64),.dat tE,.dat (.sl tEn)]
def ZPp:List Con:=[⟨79,ZFs,ZPj⟩,⟨130,Zu8,ZCU⟩,⟨133,ZHI,ZSS⟩,⟨139,ZMr,ZV9⟩,⟨179,ZDv,ZQO⟩,⟨174,ZnJ,Ztg⟩,⟨153,Yb,VX⟩,⟨77,Zzh,ZKN⟩,⟨173,ZeS,ZkM⟩,⟨175,ZrP,ZAe⟩,⟨178,Zzj,ZN2⟩,⟨176,ZtL,ZJi⟩,⟨177,ZHK,ZSU⟩,⟨126,ZpO,Zvy⟩,⟨111,Zas,ZbV⟩,⟨170,ZOm,ZX9⟩]
def bF (u:U) (t n:Int) (e:E) (l:List En) (c:C) (a:A):Option O:=
 bif a.1==1 then
  optC (Zuq ([a.2.2.2.2.2.1],())) (none) fun d8=>
  bif decide (((List.length (α:=I) [])+List.length e.2.1+1)*16≤lim) then
  bif decide (0≤a.2.1) then
  optC ([]++e.2.1)[Int.toNat a.2.1]? (none) fun d9=>
  optC ([]++e.2.1)[Int.toNat a.2.1]? (none) fun d10=>
  some ((e.1,([]++e.2.1).set (Int.toNat a.2.1) d8,e.2.2.1,e.2.2.2.1,e.2.2.2.2.1,e.2.2.2.2.2),(false,[],[],[],0,0),[],[],[])
 else none
 else none
 else bif a.1==2 then
  bif decide (0≤a.2.2.1) then
  optC e.2.1[Int.toNat a.2.2.1]? (none) fun d8=>
  bif decide (((List.length (α:=I) [])+List.length e.2.1+1)*16≤lim) then
  bif decide (0≤a.2.1) then
  optC ([]++e.2.1)[Int.toNat a.2.1]? (none) fun d9=>
  optC ([]++e.2.1)[Int.toNat a.2.1]? (none) fun d10=>
  some ((e.1,([]++e.2.1).set (Int.toNat a.2.1) d8,e.2.2.1,e.2.2.2.1,e.2.2.2.2.1,e.2.2.2.2.2),(false,[],[],[],0,0),[],[],[])
 else none
 else none
 else none
 else bif a.1==3 then
  bif decide (((List.length (α:=I) [])+List.length e.2.1+1)*16≤lim) then
  bif decide (0≤a.2.1) then
  optC ([]++e.2.1)[Int.toNat a.2.1]? (none) fun d8=>
  optC ([]++e.2.1)[Int.toNat a.2.1]? (none) fun d9=>
  some ((e.1,([]++e.2.1).set (Int.toNat a.2.1) (-2147483648,2147483647),e.2.2.1,e.2.2.2.1,e.2.2.2.2.1,e.2.2.2.2.2),(false,[],[],[],0,0),[],[],[])
 else none
 else none
 else bif a.1==4 then
  bif decide (0≤a.2.2.1) then
  optC e.2.1[Int.toNat a.2.2.1]? (none) fun d8=>
  bif decide (0≤a.2.2.2.1) then
  optC e.2.1[Int.toNat a.2.2.2.1]? (none) fun d9=>
  optC (ZyY (a.2.2.2.2.2.2.1,d8,d9,())) (none) fun d10=>
  bif d10.2.1 then
  bif d10.2.2.1 then
  bif !decide (d10.1.1>d10.1.2) then
  bif decide (((List.length (α:=I) [])+List.length e.2.1+1)*16≤lim) then
  bif decide (0≤a.2.1) then
  optC ([]++e.2.1)[Int.toNat a.2.1]? (none) fun d11=>
  optC ([]++e.2.1)[Int.toNat a.2.1]? (none) fun d12=>
  some ((e.1,([]++e.2.1).set (Int.toNat a.2.1) d10.1,e.2.2.1,e.2.2.2.1,e.2.2.2.2.1,e.2.2.2.2.2),(false,[],[],[],0,0),[7,8],[],[])
 else none
 else none
 else some ((false,[],[],[],0,0),(false,[],[],[],0,0),[7,8],[],[])
 else bif !decide (d10.1.1>d10.1.2) then
  bif decide (((List.length (α:=I) [])+List.length e.2.1+1)*16≤lim) then
  bif decide (0≤a.2.1) then
  optC ([]++e.2.1)[Int.toNat a.2.1]? (none) fun d11=>
  optC ([]++e.2.1)[Int.toNat a.2.1]? (none) fun d12=>
  some ((e.1,([]++e.2.1).set (Int.toNat a.2.1) d10.1,e.2.2.1,e.2.2.2.1,e.2.2.2.2.1,e.2.2.2.2.2),(false,[],[],[],0,0),[7],[],[])
 else none
 else none
 else some ((false,[],[],[],0,0),(false,[],[],[],0,0),[7],[],[])
 else bif d10.2.2.1 then
  bif !decide (d10.1.1>d10.1.2) then
  bif decide (((List.length (α:=I) [])+List.length e.2.1+1)*16≤lim) then
  bif decide (0≤a.2.1) then
  optC ([]++e.2.1)[Int.toNat a.2.1]? (none) fun d11=>
  optC ([]++e.2.1)[Int.toNat a.2.1]? (none) fun d12=>
  some ((e.1,([]++e.2.1).set (Int.toNat a.2.1) d10.1,e.2.2.1,e.2.2.2.1,e.2.2.2.2.1,e.2.2.2.2.2),(false,[],[],[],0,0),[8],[],[])
 else none
 else none
 else some ((false,[],[],[],0,0),(false,[],[],[],0,0),[8],[],[])
 else bif !decide (d10.1.1>d10.1.2) then
  bif decide (((List.length (α:=I) [])+List.length e.2.1+1)*16≤lim) then
  bif decide (0≤a.2.1) then
  optC ([]++e.2.1)[Int.toNat a.2.1]? (none) fun d11=>
  optC ([]++e.2.1)[Int.toNat a.2.1]? (none) fun d12=>
  some ((e.1,([]++e.2.1).set (Int.toNat a.2.1) d10.1,e.2.2.1,e.2.2.2.1,e.2.2.2.2.1,e.2.2.2.2.2),(false,[],[],[],0,0),[],[],[])
 else none
 else none
 else some ((false,[],[],[],0,0),(false,[],[],[],0,0),[],[],[])
 else none
 else none
 else bif a.1==5 then
  optC (Qn (u,t,e,l,false,a.2.2.2.2.1,())) (none) fun d8=>
  bif decide (((List.length (α:=I) [])+List.length e.2.1+1)*16≤lim) then
  bif decide (0≤a.2.1) then
  optC ([]++e.2.1)[Int.toNat a.2.1]? (none) fun d9=>
  optC ([]++e.2.1)[Int.toNat a.2.1]? (none) fun d10=>
  some ((e.1,([]++e.2.1).set (Int.toNat a.2.1) d8,e.2.2.1,e.2.2.2.1,e.2.2.2.2.1,e.2.2.2.2.2),(false,[],[],[],0,0),[],[],[(t,n,false,a.2.2.2.2.1,false,e.2.2.2.2.1)])
 else none
 else none
 else bif a.1==6 then
  bif decide (0≤a.2.2.1) then
  optC e.2.1[Int.toNat a.2.2.1]? (none) fun d8=>
  bif decide (((List.length (α:=I) [])+List.length e.2.2.1+1)*16≤lim) then
  bif decide (0≤a.2.2.2.2.1) then
  optC ([]++e.2.2.1)[Int.toNat a.2.2.2.2.1]? (none) fun d9=>
  optC ([]++e.2.2.1)[Int.toNat a.2.2.2.2.1]? (none) fun d10=>
  some ((e.1,e.2.1,([]++e.2.2.1).set (Int.toNat a.2.2.2.2.1) d8,e.2.2.2.1,e.2.2.2.2.1,e.2.2.2.2.2),(false,[],[],[],0,0),[],[(t,false,a.2.2.2.2.1,e.2.2.2.2.1,d8.1,d8.2)],[(t,n,false,a.2.2.2.2.1,true,e.2.2.2.2.1)])
 else none
 else none
 else none
 else bif a.1==7 then
  bif decide (0≤a.2.2.2.2.1) then
  optC u.2.1[Int.toNat a.2.2.2.2.1]? (none) fun d8=>
  bif decide (0≤a.2.2.1) then
  optC e.2.1[Int.toNat a.2.2.1]? (none) fun d9=>
  optC (Q0 (d9,(0,IntKind.i64.wrap (d8 - 1)),())) (none) fun d10=>
  bif !d10 then
  bif a.1==8 then
  bif decide (0≤a.2.2.2.1) then
  optC e.2.1[Int.toNat a.2.2.2.1]? (none) fun d11=>
  optC (Zz (d9,(0,IntKind.i64.wrap (d8 - 1)),())) (none) fun d12=>
  bif decide (d12.1>d12.2) then
  some ((false,[],[],[],0,0),(false,[],[],[],0,0),[9],[(t,true,a.2.2.2.2.1,e.2.2.2.2.1,d11.1,d11.2)],[(t,n,true,a.2.2.2.2.1,a.1==8,e.2.2.2.2.1)])
 else bif decide (((List.length (α:=I) [])+List.length e.2.1+1)*16≤lim) then
  bif decide (0≤a.2.2.1) then
  optC ([]++e.2.1)[Int.toNat a.2.2.1]? (none) fun d13=>
  optC ([]++e.2.1)[Int.toNat a.2.2.1]? (none) fun d14=>
  bif !a.1==8 then
  optC (Qn (u,t,(e.1,([]++e.2.1).set (Int.toNat a.2.2.1) d12,e.2.2),l,true,a.2.2.2.2.1,())) (none) fun d15=>
  bif decide (((List.length (α:=I) [])+(([]++e.2.1).set (Int.toNat a.2.2.1) d12).length+1)*16≤lim) then
  bif decide (0≤a.2.1) then
  optC ([]++([]++e.2.1).set (Int.toNat a.2.2.1) d12)[Int.toNat a.2.1]? (none) fun d16=>
  optC ([]++([]++e.2.1).set (Int.toNat a.2.2.1) d12)[Int.toNat a.2.1]? (none) fun d17=>
  some ((e.1,([]++([]++e.2.1).set (Int.toNat a.2.2.1) d12).set (Int.toNat a.2.1) d15,e.2.2.1,e.2.2.2.1,e.2.2.2.2.1,e.2.2.2.2.2),(false,[],[],[],0,0),[9],[(t,true,a.2.2.2.2.1,e.2.2.2.2.1,d11.1,d11.2)],[(t,n,true,a.2.2.2.2.1,a.1==8,e.2.2.2.2.1)])
 else none
 else none
 else bif decide (((List.length (α:=I) [])+List.length e.2.2.2.1+1)*16≤lim) then
  bif decide (0≤a.2.2.2.2.1) then
  optC ([]++e.2.2.2.1)[Int.toNat a.2.2.2.2.1]? (none) fun d15=>
  optC ([]++e.2.2.2.1)[Int.toNat a.2.2.2.2.1]? (none) fun d16=>
  bif decide (0≤a.2.2.2.1) then
  optC (([]++e.2.1).set (Int.toNat a.2.2.1) d12)[Int.toNat a.2.2.2.1]? (none) fun d17=>
  optC (([]++e.2.1).set (Int.toNat a.2.2.1) d12)[Int.toNat a.2.2.2.1]? (none) fun d18=>
  optC (ZF ([d16,d18],())) (none) fun d19=>
  bif decide (0≤a.2.2.2.2.1) then
  optC ([]++e.2.2.2.1)[Int.toNat a.2.2.2.2.1]? (none) fun d20=>
  optC ([]++e.2.2.2.1)[Int.toNat a.2.2.2.2.1]? (none) fun d21=>
  some ((e.1,([]++e.2.1).set (Int.toNat a.2.2.1) d12,e.2.2.1,([]++e.2.2.2.1).set (Int.toNat a.2.2.2.2.1) d19,e.2.2.2.2.1,e.2.2.2.2.2),(false,[],[],[],0,0),[9],[(t,true,a.2.2.2.2.1,e.2.2.2.2.1,d11.1,d11.2)],[(t,n,true,a.2.2.2.2.1,a.1==8,e.2.2.2.2.1)])
 else none
 else none
 else none
 else none
 else none
 else none
 else none
 else optC (Zz (d9,(0,IntKind.i64.wrap (d8 - 1)),())) (none) fun d11=>
  bif decide (d11.1>d11.2) then
  some ((false,[],[],[],0,0),(false,[],[],[],0,0),[9],[],[(t,n,true,a.2.2.2.2.1,a.1==8,e.2.2.2.2.1)])
 else bif decide (((List.length (α:=I) [])+List.length e.2.1+1)*16≤lim) then
  bif decide (0≤a.2.2.1) then
  optC ([]++e.2.1)[Int.toNat a.2.2.1]? (none) fun d12=>
  optC ([]++e.2.1)[Int.toNat a.2.2.1]? (none) fun d13=>
  bif !a.1==8 then
  optC (Qn (u,t,(e.1,([]++e.2.1).set (Int.toNat a.2.2.1) d11,e.2.2),l,true,a.2.2.2.2.1,())) (none) fun d14=>
  bif decide (((List.length (α:=I) [])+(([]++e.2.1).set (Int.toNat a.2.2.1) d11).length+1)*16≤lim) then
  bif decide (0≤a.2.1) then
  optC ([]++([]++e.2.1).set (Int.toNat a.2.2.1) d11)[Int.toNat a.2.1]? (none) fun d15=>
  optC ([]++([]++e.2.1).set (Int.toNat a.2.2.1) d11)[Int.toNat a.2.1]? (none) fun d16=>
  some ((e.1,([]++([]++e.2.1).set (Int.toNat a.2.2.1) d11).set (Int.toNat a.2.1) d14,e.2.2.1,e.2.2.2.1,e.2.2.2.2.1,e.2.2.2.2.2),(false,[],[],[],0,0),[9],[],[(t,n,true,a.2.2.2.2.1,a.1==8,e.2.2.2.2.1)])
 else none
 else none
 else bif decide (((List.length (α:=I) [])+List.length e.2.2.2.1+1)*16≤lim) then
  bif decide (0≤a.2.2.2.2.1) then
  optC ([]++e.2.2.2.1)[Int.toNat a.2.2.2.2.1]? (none) fun d14=>
  optC ([]++e.2.2.2.1)[Int.toNat a.2.2.2.2.1]? (none) fun d15=>
  bif decide (0≤a.2.2.2.1) then
  optC (([]++e.2.1).set (Int.toNat a.2.2.1) d11)[Int.toNat a.2.2.2.1]? (none) fun d16=>
  optC (([]++e.2.1).set (Int.toNat a.2.2.1) d11)[Int.toNat a.2.2.2.1]? (none) fun d17=>
  optC (ZF ([d15,d17],())) (none) fun d18=>
  bif decide (0≤a.2.2.2.2.1) then
  optC ([]++e.2.2.2.1)[Int.toNat a.2.2.2.2.1]? (none) fun d19=>
  optC ([]++e.2.2.2.1)[Int.toNat a.2.2.2.2.1]? (none) fun d20=>
  some ((e.1,([]++e.2.1).set (Int.toNat a.2.2.1) d11,e.2.2.1,([]++e.2.2.2.1).set (Int.toNat a.2.2.2.2.1) d18,e.2.2.2.2.1,e.2.2.2.2.2),(false,[],[],[],0,0),[9],[],[(t,n,true,a.2.2.2.2.1,a.1==8,e.2.2.2.2.1)])
 else none
 else none
 else none
 else none
 else none
 else none
 else bif a.1==8 then
  bif decide (0≤a.2.2.2.1) then
  optC e.2.1[Int.toNat a.2.2.2.1]? (none) fun d11=>
  optC (Zz (d9,(0,IntKind.i64.wrap (d8 - 1)),())) (none) fun d12=>
  bif decide (d12.1>d12.2) then
  some ((false,[],[],[],0,0),(false,[],[],[],0,0),[],[(t,true,a.2.2.2.2.1,e.2.2.2.2.1,d11.1,d11.2)],[(t,n,true,a.2.2.2.2.1,a.1==8,e.2.2.2.2.1)])
 else bif decide (((List.length (α:=I) [])+List.length e.2.1+1)*16≤lim) then
  bif decide (0≤a.2.2.1) then
  optC ([]++e.2.1)[Int.toNat a.2.2.1]? (none) fun d13=>
  optC ([]++e.2.1)[Int.toNat a.2.2.1]? (none) fun d14=>
  bif !a.1==8 then
  optC (Qn (u,t,(e.1,([]++e.2.1).set (Int.toNat a.2.2.1) d12,e.2.2),l,true,a.2.2.2.2.1,())) (none) fun d15=>
  bif decide (((List.length (α:=I) [])+(([]++e.2.1).set (Int.toNat a.2.2.1) d12).length+1)*16≤lim) then
  bif decide (0≤a.2.1) then
  optC ([]++([]++e.2.1).set (Int.toNat a.2.2.1) d12)[Int.toNat a.2.1]? (none) fun d16=>
  optC ([]++([]++e.2.1).set (Int.toNat a.2.2.1) d12)[Int.toNat a.2.1]? (none) fun d17=>
  some ((e.1,([]++([]++e.2.1).set (Int.toNat a.2.2.1) d12).set (Int.toNat a.2.1) d15,e.2.2.1,e.2.2.2.1,e.2.2.2.2.1,e.2.2.2.2.2),(false,[],[],[],0,0),[],[(t,true,a.2.2.2.2.1,e.2.2.2.2.1,d11.1,d11.2)],[(t,n,true,a.2.2.2.2.1,a.1==8,e.2.2.2.2.1)])
 else none
 else none
 else bif decide (((List.length (α:=I) [])+List.length e.2.2.2.1+1)*16≤lim) then
  bif decide (0≤a.2.2.2.2.1) then
  optC ([]++e.2.2.2.1)[Int.toNat a.2.2.2.2.1]? (none) fun d15=>
  optC ([]++e.2.2.2.1)[Int.toNat a.2.2.2.2.1]? (none) fun d16=>
  bif decide (0≤a.2.2.2.1) then
  optC (([]++e.2.1).set (Int.toNat a.2.2.1) d12)[Int.toNat a.2.2.2.1]? (none) fun d17=>
  optC (([]++e.2.1).set (Int.toNat a.2.2.1) d12)[Int.toNat a.2.2.2.1]? (none) fun d18=>
  optC (ZF ([d16,d18],())) (none) fun d19=>
  bif decide (0≤a.2.2.2.2.1) then
  optC ([]++e.2.2.2.1)[Int.toNat a.2.2.2.2.1]? (none) fun d20=>
  optC ([]++e.2.2.2.1)[Int.toNat a.2.2.2.2.1]? (none) fun d21=>
  some ((e.1,([]++e.2.1).set (Int.toNat a.2.2.1) d12,e.2.2.1,([]++e.2.2.2.1).set (Int.toNat a.2.2.2.2.1) d19,e.2.2.2.2.1,e.2.2.2.2.2),(false,[],[],[],0,0),[],[(t,true,a.2.2.2.2.1,e.2.2.2.2.1,d11.1,d11.2)],[(t,n,true,a.2.2.2.2.1,a.1==8,e.2.2.2.2.1)])
 else none
 else none
 else none
 else none
 else none
 else none
 else none
 else optC (Zz (d9,(0,IntKind.i64.wrap (d8 - 1)),())) (none) fun d11=>
  bif decide (d11.1>d11.2) then
  some ((false,[],[],[],0,0),(false,[],[],[],0,0),[],[],[(t,n,true,a.2.2.2.2.1,a.1==8,e.2.2.2.2.1)])
 else bif decide (((List.length (α:=I) [])+List.length e.2.1+1)*16≤lim) then
  bif decide (0≤a.2.2.1) then
  optC ([]++e.2.1)[Int.toNat a.2.2.1]? (none) fun d12=>
  optC ([]++e.2.1)[Int.toNat a.2.2.1]? (none) fun d13=>
  bif !a.1==8 then
  optC (Qn (u,t,(e.1,([]++e.2.1).set (Int.toNat a.2.2.1) d11,e.2.2),l,true,a.2.2.2.2.1,())) (none) fun d14=>
  bif decide (((List.length (α:=I) [])+(([]++e.2.1).set (Int.toNat a.2.2.1) d11).length+1)*16≤lim) then
  bif decide (0≤a.2.1) then
  optC ([]++([]++e.2.1).set (Int.toNat a.2.2.1) d11)[Int.toNat a.2.1]? (none) fun d15=>
  optC ([]++([]++e.2.1).set (Int.toNat a.2.2.1) d11)[Int.toNat a.2.1]? (none) fun d16=>
  some ((e.1,([]++([]++e.2.1).set (Int.toNat a.2.2.1) d11).set (Int.toNat a.2.1) d14,e.2.2.1,e.2.2.2.1,e.2.2.2.2.1,e.2.2.2.2.2),(false,[],[],[],0,0),[],[],[(t,n,true,a.2.2.2.2.1,a.1==8,e.2.2.2.2.1)])
 else none
 else none
 else bif decide (((List.length (α:=I) [])+List.length e.2.2.2.1+1)*16≤lim) then
  bif decide (0≤a.2.2.2.2.1) then
  optC ([]++e.2.2.2.1)[Int.toNat a.2.2.2.2.1]? (none) fun d14=>
  optC ([]++e.2.2.2.1)[Int.toNat a.2.2.2.2.1]? (none) fun d15=>
  bif decide (0≤a.2.2.2.1) then
  optC (([]++e.2.1).set (Int.toNat a.2.2.1) d11)[Int.toNat a.2.2.2.1]? (none) fun d16=>
  optC (([]++e.2.1).set (Int.toNat a.2.2.1) d11)[Int.toNat a.2.2.2.1]? (none) fun d17=>
  optC (ZF ([d15,d17],())) (none) fun d18=>
  bif decide (0≤a.2.2.2.2.1) then
  optC ([]++e.2.2.2.1)[Int.toNat a.2.2.2.2.1]? (none) fun d19=>
  optC ([]++e.2.2.2.1)[Int.toNat a.2.2.2.2.1]? (none) fun d20=>
  some ((e.1,([]++e.2.1).set (Int.toNat a.2.2.1) d11,e.2.2.1,([]++e.2.2.2.1).set (Int.toNat a.2.2.2.2.1) d18,e.2.2.2.2.1,e.2.2.2.2.2),(false,[],[],[],0,0),[],[],[(t,n,true,a.2.2.2.2.1,a.1==8,e.2.2.2.2.1)])
 else none
 else none
 else none
 else none
 else none
 else none
 else none
 else none
 else bif a.1==8 then
  bif decide (0≤a.2.2.2.2.1) then
  optC u.2.1[Int.toNat a.2.2.2.2.1]? (none) fun d8=>
  bif decide (0≤a.2.2.1) then
  optC e.2.1[Int.toNat a.2.2.1]? (none) fun d9=>
  optC (Q0 (d9,(0,IntKind.i64.wrap (d8 - 1)),())) (none) fun d10=>
  bif !d10 then
  bif a.1==8 then
  bif decide (0≤a.2.2.2.1) then
  optC e.2.1[Int.toNat a.2.2.2.1]? (none) fun d11=>
  optC (Zz (d9,(0,IntKind.i64.wrap (d8 - 1)),())) (none) fun d12=>
  bif decide (d12.1>d12.2) then
  some ((false,[],[],[],0,0),(false,[],[],[],0,0),[9],[(t,true,a.2.2.2.2.1,e.2.2.2.2.1,d11.1,d11.2)],[(t,n,true,a.2.2.2.2.1,a.1==8,e.2.2.2.2.1)])
 else bif decide (((List.length (α:=I) [])+List.length e.2.1+1)*16≤lim) then
  bif decide (0≤a.2.2.1) then
  optC ([]++e.2.1)[Int.toNat a.2.2.1]? (none) fun d13=>
  optC ([]++e.2.1)[Int.toNat a.2.2.1]? (none) fun d14=>
  bif !a.1==8 then
  optC (Qn (u,t,(e.1,([]++e.2.1).set (Int.toNat a.2.2.1) d12,e.2.2),l,true,a.2.2.2.2.1,())) (none) fun d15=>
  bif decide (((List.length (α:=I) [])+(([]++e.2.1).set (Int.toNat a.2.2.1) d12).length+1)*16≤lim) then
  bif decide (0≤a.2.1) then
  optC ([]++([]++e.2.1).set (Int.toNat a.2.2.1) d12)[Int.toNat a.2.1]? (none) fun d16=>
  optC ([]++([]++e.2.1).set (Int.toNat a.2.2.1) d12)[Int.toNat a.2.1]? (none) fun d17=>
  some ((e.1,([]++([]++e.2.1).set (Int.toNat a.2.2.1) d12).set (Int.toNat a.2.1) d15,e.2.2.1,e.2.2.2.1,e.2.2.2.2.1,e.2.2.2.2.2),(false,[],[],[],0,0),[9],[(t,true,a.2.2.2.2.1,e.2.2.2.2.1,d11.1,d11.2)],[(t,n,true,a.2.2.2.2.1,a.1==8,e.2.2.2.2.1)])
 else none
 else none
 else bif decide (((List.length (α:=I) [])+List.length e.2.2.2.1+1)*16≤lim) then
  bif decide (0≤a.2.2.2.2.1) then
  optC ([]++e.2.2.2.1)[Int.toNat a.2.2.2.2.1]? (none) fun d15=>
  optC ([]++e.2.2.2.1)[Int.toNat a.2.2.2.2.1]? (none) fun d16=>
  bif decide (0≤a.2.2.2.1) then
  optC (([]++e.2.1).set (Int.toNat a.2.2.1) d12)[Int.toNat a.2.2.2.1]? (none) fun d17=>
  optC (([]++e.2.1).set (Int.toNat a.2.2.1) d12)[Int.toNat a.2.2.2.1]? (none) fun d18=>
  optC (ZF ([d16,d18],())) (none) fun d19=>
  bif decide (0≤a.2.2.2.2.1) then
  optC ([]++e.2.2.2.1)[Int.toNat a.2.2.2.2.1]? (none) fun d20=>
  optC ([]++e.2.2.2.1)[Int.toNat a.2.2.2.2.1]? (none) fun d21=>
  some ((e.1,([]++e.2.1).set (Int.toNat a.2.2.1) d12,e.2.2.1,([]++e.2.2.2.1).set (Int.toNat a.2.2.2.2.1) d19,e.2.2.2.2.1,e.2.2.2.2.2),(false,[],[],[],0,0),[9],[(t,true,a.2.2.2.2.1,e.2.2.2.2.1,d11.1,d11.2)],[(t,n,true,a.2.2.2.2.1,a.1==8,e.2.2.2.2.1)])
 else none
 else none
 else none
 else none
 else none
 else none
 else none
 else optC (Zz (d9,(0,IntKind.i64.wrap (d8 - 1)),())) (none) fun d11=>
  bif decide (d11.1>d11.2) then
  some ((false,[],[],[],0,0),(false,[],[],[],0,0),[9],[],[(t,n,true,a.2.2.2.2.1,a.1==8,e.2.2.2.2.1)])
 else bif decide (((List.length (α:=I) [])+List.length e.2.1+1)*16≤lim) then
  bif decide (0≤a.2.2.1) then
  optC ([]++e.2.1)[Int.toNat a.2.2.1]? (none) fun d12=>
  optC ([]++e.2.1)[Int.toNat a.2.2.1]? (none) fun d13=>
  bif !a.1==8 then
  optC (Qn (u,t,(e.1,([]++e.2.1).set (Int.toNat a.2.2.1) d11,e.2.2),l,true,a.2.2.2.2.1,())) (none) fun d14=>
  bif decide (((List.length (α:=I) [])+(([]++e.2.1).set (Int.toNat a.2.2.1) d11).length+1)*16≤lim) then
  bif decide (0≤a.2.1) then
  optC ([]++([]++e.2.1).set (Int.toNat a.2.2.1) d11)[Int.toNat a.2.1]? (none) fun d15=>
  optC ([]++([]++e.2.1).set (Int.toNat a.2.2.1) d11)[Int.toNat a.2.1]? (none) fun d16=>
  some ((e.1,([]++([]++e.2.1).set (Int.toNat a.2.2.1) d11).set (Int.toNat a.2.1) d14,e.2.2.1,e.2.2.2.1,e.2.2.2.2.1,e.2.2.2.2.2),(false,[],[],[],0,0),[9],[],[(t,n,true,a.2.2.2.2.1,a.1==8,e.2.2.2.2.1)])
 else none
 else none
 else bif decide (((List.length (α:=I) [])+List.length e.2.2.2.1+1)*16≤lim) then
  bif decide (0≤a.2.2.2.2.1) then
  optC ([]++e.2.2.2.1)[Int.toNat a.2.2.2.2.1]? (none) fun d14=>
  optC ([]++e.2.2.2.1)[Int.toNat a.2.2.2.2.1]? (none) fun d15=>
  bif decide (0≤a.2.2.2.1) then
  optC (([]++e.2.1).set (Int.toNat a.2.2.1) d11)[Int.toNat a.2.2.2.1]? (none) fun d16=>
  optC (([]++e.2.1).set (Int.toNat a.2.2.1) d11)[Int.toNat a.2.2.2.1]? (none) fun d17=>
  optC (ZF ([d15,d17],())) (none) fun d18=>
  bif decide (0≤a.2.2.2.2.1) then
  optC ([]++e.2.2.2.1)[Int.toNat a.2.2.2.2.1]? (none) fun d19=>
  optC ([]++e.2.2.2.1)[Int.toNat a.2.2.2.2.1]? (none) fun d20=>
  some ((e.1,([]++e.2.1).set (Int.toNat a.2.2.1) d11,e.2.2.1,([]++e.2.2.2.1).set (Int.toNat a.2.2.2.2.1) d18,e.2.2.2.2.1,e.2.2.2.2.2),(false,[],[],[],0,0),[9],[],[(t,n,true,a.2.2.2.2.1,a.1==8,e.2.2.2.2.1)])
 else none
 else none
 else none
 else none
 else none
 else none
 else bif a.1==8 then
  bif decide (0≤a.2.2.2.1) then
  optC e.2.1[Int.toNat a.2.2.2.1]? (none) fun d11=>
  optC (Zz (d9,(0,IntKind.i64.wrap (d8 - 1)),())) (none) fun d12=>
  bif decide (d12.1>d12.2) then
  some ((false,[],[],[],0,0),(false,[],[],[],0,0),[],[(t,true,a.2.2.2.2.1,e.2.2.2.2.1,d11.1,d11.2)],[(t,n,true,a.2.2.2.2.1,a.1==8,e.2.2.2.2.1)])
 else bif decide (((List.length (α:=I) [])+List.length e.2.1+1)*16≤lim) then
  bif decide (0≤a.2.2.1) then
  optC ([]++e.2.1)[Int.toNat a.2.2.1]? (none) fun d13=>
  optC ([]++e.2.1)[Int.toNat a.2.2.1]? (none) fun d14=>
  bif !a.1==8 then
  optC (Qn (u,t,(e.1,([]++e.2.1).set (Int.toNat a.2.2.1) d12,e.2.2),l,true,a.2.2.2.2.1,())) (none) fun d15=>
  bif decide (((List.length (α:=I) [])+(([]++e.2.1).set (Int.toNat a.2.2.1) d12).length+1)*16≤lim) then
  bif decide (0≤a.2.1) then
  optC ([]++([]++e.2.1).set (Int.toNat a.2.2.1) d12)[Int.toNat a.2.1]? (none) fun d16=>
  optC ([]++([]++e.2.1).set (Int.toNat a.2.2.1) d12)[Int.toNat a.2.1]? (none) fun d17=>
  some ((e.1,([]++([]++e.2.1).set (Int.toNat a.2.2.1) d12).set (Int.toNat a.2.1) d15,e.2.2.1,e.2.2.2.1,e.2.2.2.2.1,e.2.2.2.2.2),(false,[],[],[],0,0),[],[(t,true,a.2.2.2.2.1,e.2.2.2.2.1,d11.1,d11.2)],[(t,n,true,a.2.2.2.2.1,a.1==8,e.2.2.2.2.1)])
 else none
 else none
 else bif decide (((List.length (α:=I) [])+List.length e.2.2.2.1+1)*16≤lim) then
  bif decide (0≤a.2.2.2.2.1) then
  optC ([]++e.2.2.2.1)[Int.toNat a.2.2.2.2.1]? (none) fun d15=>
  optC ([]++e.2.2.2.1)[Int.toNat a.2.2.2.2.1]? (none) fun d16=>
  bif decide (0≤a.2.2.2.1) then
  optC (([]++e.2.1).set (Int.toNat a.2.2.1) d12)[Int.toNat a.2.2.2.1]? (none) fun d17=>
  optC (([]++e.2.1).set (Int.toNat a.2.2.1) d12)[Int.toNat a.2.2.2.1]? (none) fun d18=>
  optC (ZF ([d16,d18],())) (none) fun d19=>
  bif decide (0≤a.2.2.2.2.1) then
  optC ([]++e.2.2.2.1)[Int.toNat a.2.2.2.2.1]? (none) fun d20=>
  optC ([]++e.2.2.2.1)[Int.toNat a.2.2.2.2.1]? (none) fun d21=>
  some ((e.1,([]++e.2.1).set (Int.toNat a.2.2.1) d12,e.2.2.1,([]++e.2.2.2.1).set (Int.toNat a.2.2.2.2.1) d19,e.2.2.2.2.1,e.2.2.2.2.2),(false,[],[],[],0,0),[],[(t,true,a.2.2.2.2.1,e.2.2.2.2.1,d11.1,d11.2)],[(t,n,true,a.2.2.2.2.1,a.1==8,e.2.2.2.2.1)])
 else none
 else none
 else none
 else none
 else none
 else none
 else none
 else optC (Zz (d9,(0,IntKind.i64.wrap (d8 - 1)),())) (none) fun d11=>
  bif decide (d11.1>d11.2) then
  some ((false,[],[],[],0,0),(false,[],[],[],0,0),[],[],[(t,n,true,a.2.2.2.2.1,a.1==8,e.2.2.2.2.1)])
 else bif decide (((List.length (α:=I) [])+List.length e.2.1+1)*16≤lim) then
  bif decide (0≤a.2.2.1) then
  optC ([]++e.2.1)[Int.toNat a.2.2.1]? (none) fun d12=>
  optC ([]++e.2.1)[Int.toNat a.2.2.1]? (none) fun d13=>
  bif !a.1==8 then
  optC (Qn (u,t,(e.1,([]++e.2.1).set (Int.toNat a.2.2.1) d11,e.2.2),l,true,a.2.2.2.2.1,())) (none) fun d14=>
  bif decide (((List.length (α:=I) [])+(([]++e.2.1).set (Int.toNat a.2.2.1) d11).length+1)*16≤lim) then
  bif decide (0≤a.2.1) then
  optC ([]++([]++e.2.1).set (Int.toNat a.2.2.1) d11)[Int.toNat a.2.1]? (none) fun d15=>
  optC ([]++([]++e.2.1).set (Int.toNat a.2.2.1) d11)[Int.toNat a.2.1]? (none) fun d16=>
  some ((e.1,([]++([]++e.2.1).set (Int.toNat a.2.2.1) d11).set (Int.toNat a.2.1) d14,e.2.2.1,e.2.2.2.1,e.2.2.2.2.1,e.2.2.2.2.2),(false,[],[],[],0,0),[],[],[(t,n,true,a.2.2.2.2.1,a.1==8,e.2.2.2.2.1)])
 else none
 else none
 else bif decide (((List.length (α:=I) [])+List.length e.2.2.2.1+1)*16≤lim) then
  bif decide (0≤a.2.2.2.2.1) then
  optC ([]++e.2.2.2.1)[Int.toNat a.2.2.2.2.1]? (none) fun d14=>
  optC ([]++e.2.2.2.1)[Int.toNat a.2.2.2.2.1]? (none) fun d15=>
  bif decide (0≤a.2.2.2.1) then
  optC (([]++e.2.1).set (Int.toNat a.2.2.1) d11)[Int.toNat a.2.2.2.1]? (none) fun d16=>
  optC (([]++e.2.1).set (Int.toNat a.2.2.1) d11)[Int.toNat a.2.2.2.1]? (none) fun d17=>
  optC (ZF ([d15,d17],())) (none) fun d18=>
  bif decide (0≤a.2.2.2.2.1) then
  optC ([]++e.2.2.2.1)[Int.toNat a.2.2.2.2.1]? (none) fun d19=>
  optC ([]++e.2.2.2.1)[Int.toNat a.2.2.2.2.1]? (none) fun d20=>
  some ((e.1,([]++e.2.1).set (Int.toNat a.2.2.1) d11,e.2.2.1,([]++e.2.2.2.1).set (Int.toNat a.2.2.2.2.1) d18,e.2.2.2.2.1,e.2.2.2.2.2),(false,[],[],[],0,0),[],[],[(t,n,true,a.2.2.2.2.1,a.1==8,e.2.2.2.2.1)])
 else none
 else none
 else none
 else none
 else none
 else none
 else none
 else none
 else bif a.1==9 then
  optC (ZW (e.2.2.2.2.2,a.2.2.2.2.1,())) (none) fun d8=>
  bif d8 then
  optC (ZW (e.2.2.2.2.1,a.2.2.2.2.1,())) (none) fun d9=>
  bif d9 then
  some ((false,[],[],[],0,0),(false,[],[],[],0,0),[11],[],[])
 else optC (Qe ((a.1,a.2.1,a.2.2.1,a.2.2.2.1,a.2.2.2.2.1,a.2.2.2.2.2.1,a.2.2.2.2.2.2.1,a.2.2.2.2.2.2.2.1,a.2.2.2.2.2.2.2.2,u.1,u.2.1,u.2.2.1,u.2.2.2,t,n,e.1,e.2.1,e.2.2.1,e.2.2.2.1,e.2.2.2.2.1,e.2.2.2.2.2,l,false,[],[],[],0,0,false,[],[],[],0,0,[11],[],[],()),e.2.2.1,false,())) (none) fun d10=>
  optC (Qe ((a.1,a.2.1,a.2.2.1,a.2.2.2.1,a.2.2.2.2.1,a.2.2.2.2.2.1,a.2.2.2.2.2.2.1,a.2.2.2.2.2.2.2.1,a.2.2.2.2.2.2.2.2,u.1,u.2.1,u.2.2.1,u.2.2.2,t,n,e.1,e.2.1,e.2.2.1,e.2.2.2.1,e.2.2.2.2.1,e.2.2.2.2.2,l,false,[],[],[],0,0,false,[],[],[],0,0,[11],[],[],()),e.2.2.2.1,true,())) (none) fun d11=>
  optC (Zak (e.2.2.2.2.1,[a.2.2.2.2.1],())) (none) fun d12=>
  optC (Zak (e.2.2.2.2.2,[a.2.2.2.2.1],())) (none) fun d13=>
  some ((e.1,e.2.1,d10,d11,d12,d13),(false,[],[],[],0,0),[11],[],[])
 else optC (ZW (e.2.2.2.2.1,a.2.2.2.2.1,())) (none) fun d9=>
  bif d9 then
  some ((false,[],[],[],0,0),(false,[],[],[],0,0),[],[],[])
 else optC (Qe ((a.1,a.2.1,a.2.2.1,a.2.2.2.1,a.2.2.2.2.1,a.2.2.2.2.2.1,a.2.2.2.2.2.2.1,a.2.2.2.2.2.2.2.1,a.2.2.2.2.2.2.2.2,u.1,u.2.1,u.2.2.1,u.2.2.2,t,n,e.1,e.2.1,e.2.2.1,e.2.2.2.1,e.2.2.2.2.1,e.2.2.2.2.2,l,false,[],[],[],0,0,false,[],[],[],0,0,[],[],[],()),e.2.2.1,false,())) (none) fun d10=>
  optC (Qe ((a.1,a.2.1,a.2.2.1,a.2.2.2.1,a.2.2.2.2.1,a.2.2.2.2.2.1,a.2.2.2.2.2.2.1,a.2.2.2.2.2.2.2.1,a.2.2.2.2.2.2.2.2,u.1,u.2.1,u.2.2.1,u.2.2.2,t,n,e.1,e.2.1,e.2.2.1,e.2.2.2.1,e.2.2.2.2.1,e.2.2.2.2.2,l,false,[],[],[],0,0,false,[],[],[],0,0,[],[],[],()),e.2.2.2.1,true,())) (none) fun d11=>
  optC (Zak (e.2.2.2.2.1,[a.2.2.2.2.1],())) (none) fun d12=>
  optC (Zak (e.2.2.2.2.2,[a.2.2.2.2.1],())) (none) fun d13=>
  some ((e.1,e.2.1,d10,d11,d12,d13),(false,[],[],[],0,0),[],[],[])
 else bif a.1==10 then
  optC (ZW (e.2.2.2.2.1,a.2.2.2.2.1,())) (none) fun d8=>
  bif !d8 then
  optC (ZW (e.2.2.2.2.2,a.2.2.2.2.1,())) (none) fun d9=>
  bif !d9 then
  some ((false,[],[],[],0,0),(false,[],[],[],0,0),[12],[],[])
 else optC (Ju (e.2.2.2.2.1,[a.2.2.2.2.1],())) (none) fun d10=>
  optC (Ju (e.2.2.2.2.2,[a.2.2.2.2.1],())) (none) fun d11=>
  some ((e.1,e.2.1,e.2.2.1,e.2.2.2.1,d10,d11),(false,[],[],[],0,0),[12],[],[])
 else optC (ZW (e.2.2.2.2.2,a.2.2.2.2.1,())) (none) fun d9=>
  bif !d9 then
  some ((false,[],[],[],0,0),(false,[],[],[],0,0),[],[],[])
 else optC (Ju (e.2.2.2.2.1,[a.2.2.2.2.1],())) (none) fun d10=>
  optC (Ju (e.2.2.2.2.2,[a.2.2.2.2.1],())) (none) fun d11=>
  some ((e.1,e.2.1,e.2.2.1,e.2.2.2.1,d10,d11),(false,[],[],[],0,0),[],[],[])
 else bif a.1==11 then
  bif decide (0≤a.2.2.1) then
  optC e.2.1[Int.toNat a.2.2.1]? (none) fun d8=>
  bif decide (0≤a.2.2.2.1) then
  optC e.2.1[Int.toNat a.2.2.2.1]? (none) fun d9=>
  optC (ZP (a.2.2.2.2.2.2.1,d8,d9,())) (none) fun d10=>
  bif a.2.2.1==a.2.2.2.1 then
  optC (Zz (d10.1,d10.2.1,())) (none) fun d11=>
  bif decide (d11.1>d11.2) then
  optC (Kb (a.2.2.2.2.2.2.1,())) (none) fun d12=>
  bif decide (0≤a.2.2.1) then
  optC e.2.1[Int.toNat a.2.2.1]? (none) fun d13=>
  bif decide (0≤a.2.2.2.1) then
  optC e.2.1[Int.toNat a.2.2.2.1]? (none) fun d14=>
  optC (ZP (d12,d13,d14,())) (none) fun d15=>
  bif a.2.2.1==a.2.2.2.1 then
  optC (Zz (d15.1,d15.2.1,())) (none) fun d16=>
  bif decide (d16.1>d16.2) then
  some ((false,[],[],[],0,0),(false,[],[],[],0,0),[],[],[])
 else bif decide (d16.1>d16.2) then
  some ((false,[],[],[],0,0),(false,[],[],[],0,0),[],[],[])
 else bif decide (((List.length (α:=I) [])+List.length e.2.1+1)*16≤lim) then
  bif decide (0≤a.2.2.1) then
  optC ([]++e.2.1)[Int.toNat a.2.2.1]? (none) fun d17=>
  optC ([]++e.2.1)[Int.toNat a.2.2.1]? (none) fun d18=>
  bif decide (0≤a.2.2.2.1) then
  optC (([]++e.2.1).set (Int.toNat a.2.2.1) d16)[Int.toNat a.2.2.2.1]? (none) fun d19=>
  optC (([]++e.2.1).set (Int.toNat a.2.2.1) d16)[Int.toNat a.2.2.2.1]? (none) fun d20=>
  some ((false,[],[],[],0,0),(e.1,(([]++e.2.1).set (Int.toNat a.2.2.1) d16).set (Int.toNat a.2.2.2.1) d16,e.2.2.1,e.2.2.2.1,e.2.2.2.2.1,e.2.2.2.2.2),[],[],[])
 else none
 else none
 else none
 else bif decide (d15.1.1>d15.1.2) then
  some ((false,[],[],[],0,0),(false,[],[],[],0,0),[],[],[])
 else bif decide (d15.2.1.1>d15.2.1.2) then
  some ((false,[],[],[],0,0),(false,[],[],[],0,0),[],[],[])
 else bif decide (((List.length (α:=I) [])+List.length e.2.1+1)*16≤lim) then
  bif decide (0≤a.2.2.1) then
  optC ([]++e.2.1)[Int.toNat a.2.2.1]? (none) fun d16=>
  optC ([]++e.2.1)[Int.toNat a.2.2.1]? (none) fun d17=>
  bif decide (0≤a.2.2.2.1) then
  optC (([]++e.2.1).set (Int.toNat a.2.2.1) d15.1)[Int.toNat a.2.2.2.1]? (none) fun d18=>
  optC (([]++e.2.1).set (Int.toNat a.2.2.1) d15.1)[Int.toNat a.2.2.2.1]? (none) fun d19=>
  some ((false,[],[],[],0,0),(e.1,(([]++e.2.1).set (Int.toNat a.2.2.1) d15.1).set (Int.toNat a.2.2.2.1) d15.2.1,e.2.2.1,e.2.2.2.1,e.2.2.2.2.1,e.2.2.2.2.2),[],[],[])
 else none
 else none
 else none
 else none
 else none
 else bif decide (d11.1>d11.2) then
  optC (Kb (a.2.2.2.2.2.2.1,())) (none) fun d12=>
  bif decide (0≤a.2.2.1) then
  optC e.2.1[Int.toNat a.2.2.1]? (none) fun d13=>
  bif decide (0≤a.2.2.2.1) then
  optC e.2.1[Int.toNat a.2.2.2.1]? (none) fun d14=>
  optC (ZP (d12,d13,d14,())) (none) fun d15=>
  bif a.2.2.1==a.2.2.2.1 then
  optC (Zz (d15.1,d15.2.1,())) (none) fun d16=>
  bif decide (d16.1>d16.2) then
  some ((false,[],[],[],0,0),(false,[],[],[],0,0),[],[],[])
 else bif decide (d16.1>d16.2) then
  some ((false,[],[],[],0,0),(false,[],[],[],0,0),[],[],[])
 else bif decide (((List.length (α:=I) [])+List.length e.2.1+1)*16≤lim) then
  bif decide (0≤a.2.2.1) then
  optC ([]++e.2.1)[Int.toNat a.2.2.1]? (none) fun d17=>
  optC ([]++e.2.1)[Int.toNat a.2.2.1]? (none) fun d18=>
  bif decide (0≤a.2.2.2.1) then
  optC (([]++e.2.1).set (Int.toNat a.2.2.1) d16)[Int.toNat a.2.2.2.1]? (none) fun d19=>
  optC (([]++e.2.1).set (Int.toNat a.2.2.1) d16)[Int.toNat a.2.2.2.1]? (none) fun d20=>
  some ((false,[],[],[],0,0),(e.1,(([]++e.2.1).set (Int.toNat a.2.2.1) d16).set (Int.toNat a.2.2.2.1) d16,e.2.2.1,e.2.2.2.1,e.2.2.2.2.1,e.2.2.2.2.2),[],[],[])
 else none
 else none
 else none
 else bif decide (d15.1.1>d15.1.2) then
  some ((false,[],[],[],0,0),(false,[],[],[],0,0),[],[],[])
 else bif decide (d15.2.1.1>d15.2.1.2) then
  some ((false,[],[],[],0,0),(false,[],[],[],0,0),[],[],[])
 else bif decide (((List.length (α:=I) [])+List.length e.2.1+1)*16≤lim) then
  bif decide (0≤a.2.2.1) then
  optC ([]++e.2.1)[Int.toNat a.2.2.1]? (none) fun d16=>
  optC ([]++e.2.1)[Int.toNat a.2.2.1]? (none) fun d17=>
  bif decide (0≤a.2.2.2.1) then
  optC (([]++e.2.1).set (Int.toNat a.2.2.1) d15.1)[Int.toNat a.2.2.2.1]? (none) fun d18=>
  optC (([]++e.2.1).set (Int.toNat a.2.2.1) d15.1)[Int.toNat a.2.2.2.1]? (none) fun d19=>
  some ((false,[],[],[],0,0),(e.1,(([]++e.2.1).set (Int.toNat a.2.2.1) d15.1).set (Int.toNat a.2.2.2.1) d15.2.1,e.2.2.1,e.2.2.2.1,e.2.2.2.2.1,e.2.2.2.2.2),[],[],[])
 else none
 else none
 else none
 else none
 else none
 else bif decide (((List.length (α:=I) [])+List.length e.2.1+1)*16≤lim) then
  bif decide (0≤a.2.2.1) then
  optC ([]++e.2.1)[Int.toNat a.2.2.1]? (none) fun d12=>
  optC ([]++e.2.1)[Int.toNat a.2.2.1]? (none) fun d13=>
  bif decide (0≤a.2.2.2.1) then
  optC (([]++e.2.1).set (Int.toNat a.2.2.1) d11)[Int.toNat a.2.2.2.1]? (none) fun d14=>
  optC (([]++e.2.1).set (Int.toNat a.2.2.1) d11)[Int.toNat a.2.2.2.1]? (none) fun d15=>
  optC (Kb (a.2.2.2.2.2.2.1,())) (none) fun d16=>
  bif decide (0≤a.2.2.1) then
  optC e.2.1[Int.toNat a.2.2.1]? (none) fun d17=>
  bif decide (0≤a.2.2.2.1) then
  optC e.2.1[Int.toNat a.2.2.2.1]? (none) fun d18=>
  optC (ZP (d16,d17,d18,())) (none) fun d19=>
  bif a.2.2.1==a.2.2.2.1 then
  optC (Zz (d19.1,d19.2.1,())) (none) fun d20=>
  bif decide (d20.1>d20.2) then
  some ((e.1,(([]++e.2.1).set (Int.toNat a.2.2.1) d11).set (Int.toNat a.2.2.2.1) d11,e.2.2.1,e.2.2.2.1,e.2.2.2.2.1,e.2.2.2.2.2),(false,[],[],[],0,0),[],[],[])
 else bif decide (d20.1>d20.2) then
  some ((e.1,(([]++e.2.1).set (Int.toNat a.2.2.1) d11).set (Int.toNat a.2.2.2.1) d11,e.2.2.1,e.2.2.2.1,e.2.2.2.2.1,e.2.2.2.2.2),(false,[],[],[],0,0),[],[],[])
 else bif decide (((List.length (α:=I) [])+List.length e.2.1+1)*16≤lim) then
  bif decide (0≤a.2.2.1) then
  optC ([]++e.2.1)[Int.toNat a.2.2.1]? (none) fun d21=>
  optC ([]++e.2.1)[Int.toNat a.2.2.1]? (none) fun d22=>
  bif decide (0≤a.2.2.2.1) then
  optC (([]++e.2.1).set (Int.toNat a.2.2.1) d20)[Int.toNat a.2.2.2.1]? (none) fun d23=>
  optC (([]++e.2.1).set (Int.toNat a.2.2.1) d20)[Int.toNat a.2.2.2.1]? (none) fun d24=>
  some ((e.1,(([]++e.2.1).set (Int.toNat a.2.2.1) d11).set (Int.toNat a.2.2.2.1) d11,e.2.2.1,e.2.2.2.1,e.2.2.2.2.1,e.2.2.2.2.2),(e.1,(([]++e.2.1).set (Int.toNat a.2.2.1) d20).set (Int.toNat a.2.2.2.1) d20,e.2.2.1,e.2.2.2.1,e.2.2.2.2.1,e.2.2.2.2.2),[],[],[])
 else none
 else none
 else none
 else bif decide (d19.1.1>d19.1.2) then
  some ((e.1,(([]++e.2.1).set (Int.toNat a.2.2.1) d11).set (Int.toNat a.2.2.2.1) d11,e.2.2.1,e.2.2.2.1,e.2.2.2.2.1,e.2.2.2.2.2),(false,[],[],[],0,0),[],[],[])
 else bif decide (d19.2.1.1>d19.2.1.2) then
  some ((e.1,(([]++e.2.1).set (Int.toNat a.2.2.1) d11).set (Int.toNat a.2.2.2.1) d11,e.2.2.1,e.2.2.2.1,e.2.2.2.2.1,e.2.2.2.2.2),(false,[],[],[],0,0),[],[],[])
 else bif decide (((List.length (α:=I) [])+List.length e.2.1+1)*16≤lim) then
  bif decide (0≤a.2.2.1) then
  optC ([]++e.2.1)[Int.toNat a.2.2.1]? (none) fun d20=>
  optC ([]++e.2.1)[Int.toNat a.2.2.1]? (none) fun d21=>
  bif decide (0≤a.2.2.2.1) then
  optC (([]++e.2.1).set (Int.toNat a.2.2.1) d19.1)[Int.toNat a.2.2.2.1]? (none) fun d22=>
  optC (([]++e.2.1).set (Int.toNat a.2.2.1) d19.1)[Int.toNat a.2.2.2.1]? (none) fun d23=>
  some ((e.1,(([]++e.2.1).set (Int.toNat a.2.2.1) d11).set (Int.toNat a.2.2.2.1) d11,e.2.2.1,e.2.2.2.1,e.2.2.2.2.1,e.2.2.2.2.2),(e.1,(([]++e.2.1).set (Int.toNat a.2.2.1) d19.1).set (Int.toNat a.2.2.2.1) d19.2.1,e.2.2.1,e.2.2.2.1,e.2.2.2.2.1,e.2.2.2.2.2),[],[],[])
 else none
 else none
 else none
 else none
 else none
 else none
 else none
 else none
 else bif decide (d10.1.1>d10.1.2) then
  optC (Kb (a.2.2.2.2.2.2.1,())) (none) fun d11=>
  bif decide (0≤a.2.2.1) then
  optC e.2.1[Int.toNat a.2.2.1]? (none) fun d12=>
  bif decide (0≤a.2.2.2.1) then
  optC e.2.1[Int.toNat a.2.2.2.1]? (none) fun d13=>
  optC (ZP (d11,d12,d13,())) (none) fun d14=>
  bif a.2.2.1==a.2.2.2.1 then
  optC (Zz (d14.1,d14.2.1,())) (none) fun d15=>
  bif decide (d15.1>d15.2) then
  some ((false,[],[],[],0,0),(false,[],[],[],0,0),[],[],[])
 else bif decide (d15.1>d15.2) then
  some ((false,[],[],[],0,0),(false,[],[],[],0,0),[],[],[])
 else bif decide (((List.length (α:=I) [])+List.length e.2.1+1)*16≤lim) then
  bif decide (0≤a.2.2.1) then
  optC ([]++e.2.1)[Int.toNat a.2.2.1]? (none) fun d16=>
  optC ([]++e.2.1)[Int.toNat a.2.2.1]? (none) fun d17=>
  bif decide (0≤a.2.2.2.1) then
  optC (([]++e.2.1).set (Int.toNat a.2.2.1) d15)[Int.toNat a.2.2.2.1]? (none) fun d18=>
  optC (([]++e.2.1).set (Int.toNat a.2.2.1) d15)[Int.toNat a.2.2.2.1]? (none) fun d19=>
  some ((false,[],[],[],0,0),(e.1,(([]++e.2.1).set (Int.toNat a.2.2.1) d15).set (Int.toNat a.2.2.2.1) d15,e.2.2.1,e.2.2.2.1,e.2.2.2.2.1,e.2.2.2.2.2),[],[],[])
 else none
 else none
 else none
 else bif decide (d14.1.1>d14.1.2) then
  some ((false,[],[],[],0,0),(false,[],[],[],0,0),[],[],[])
 else bif decide (d14.2.1.1>d14.2.1.2) then
  some ((false,[],[],[],0,0),(false,[],[],[],0,0),[],[],[])
 else bif decide (((List.length (α:=I) [])+List.length e.2.1+1)*16≤lim) then
  bif decide (0≤a.2.2.1) then
  optC ([]++e.2.1)[Int.toNat a.2.2.1]? (none) fun d15=>
  optC ([]++e.2.1)[Int.toNat a.2.2.1]? (none) fun d16=>
  bif decide (0≤a.2.2.2.1) then
  optC (([]++e.2.1).set (Int.toNat a.2.2.1) d14.1)[Int.toNat a.2.2.2.1]? (none) fun d17=>
  optC (([]++e.2.1).set (Int.toNat a.2.2.1) d14.1)[Int.toNat a.2.2.2.1]? (none) fun d18=>
  some ((false,[],[],[],0,0),(e.1,(([]++e.2.1).set (Int.toNat a.2.2.1) d14.1).set (Int.toNat a.2.2.2.1) d14.2.1,e.2.2.1,e.2.2.2.1,e.2.2.2.2.1,e.2.2.2.2.2),[],[],[])
 else none
 else none
 else none
 else none
 else none
 else bif decide (d10.2.1.1>d10.2.1.2) then
  optC (Kb (a.2.2.2.2.2.2.1,())) (none) fun d11=>
  bif decide (0≤a.2.2.1) then
  optC e.2.1[Int.toNat a.2.2.1]? (none) fun d12=>
  bif decide (0≤a.2.2.2.1) then
  optC e.2.1[Int.toNat a.2.2.2.1]? (none) fun d13=>
  optC (ZP (d11,d12,d13,())) (none) fun d14=>
  bif a.2.2.1==a.2.2.2.1 then
  optC (Zz (d14.1,d14.2.1,())) (none) fun d15=>
  bif decide (d15.1>d15.2) then
  some ((false,[],[],[],0,0),(false,[],[],[],0,0),[],[],[])
 else bif decide (d15.1>d15.2) then
  some ((false,[],[],[],0,0),(false,[],[],[],0,0),[],[],[])
 else bif decide (((List.length (α:=I) [])+List.length e.2.1+1)*16≤lim) then
  bif decide (0≤a.2.2.1) then
  optC ([]++e.2.1)[Int.toNat a.2.2.1]? (none) fun d16=>
  optC ([]++e.2.1)[Int.toNat a.2.2.1]? (none) fun d17=>
  bif decide (0≤a.2.2.2.1) then
  optC (([]++e.2.1).set (Int.toNat a.2.2.1) d15)[Int.toNat a.2.2.2.1]? (none) fun d18=>
  optC (([]++e.2.1).set (Int.toNat a.2.2.1) d15)[Int.toNat a.2.2.2.1]? (none) fun d19=>
  some ((false,[],[],[],0,0),(e.1,(([]++e.2.1).set (Int.toNat a.2.2.1) d15).set (Int.toNat a.2.2.2.1) d15,e.2.2.1,e.2.2.2.1,e.2.2.2.2.1,e.2.2.2.2.2),[],[],[])
 else none
 else none
 else none
 else bif decide (d14.1.1>d14.1.2) then
  some ((false,[],[],[],0,0),(false,[],[],[],0,0),[],[],[])
 else bif decide (d14.2.1.1>d14.2.1.2) then
  some ((false,[],[],[],0,0),(false,[],[],[],0,0),[],[],[])
 else bif decide (((List.length (α:=I) [])+List.length e.2.1+1)*16≤lim) then
  bif decide (0≤a.2.2.1) then
  optC ([]++e.2.1)[Int.toNat a.2.2.1]? (none) fun d15=>
  optC ([]++e.2.1)[Int.toNat a.2.2.1]? (none) fun d16=>
  bif decide (0≤a.2.2.2.1) then
  optC (([]++e.2.1).set (Int.toNat a.2.2.1) d14.1)[Int.toNat a.2.2.2.1]? (none) fun d17=>
  optC (([]++e.2.1).set (Int.toNat a.2.2.1) d14.1)[Int.toNat a.2.2.2.1]? (none) fun d18=>
  some ((false,[],[],[],0,0),(e.1,(([]++e.2.1).set (Int.toNat a.2.2.1) d14.1).set (Int.toNat a.2.2.2.1) d14.2.1,e.2.2.1,e.2.2.2.1,e.2.2.2.2.1,e.2.2.2.2.2),[],[],[])
 else none
 else none
 else none
 else none
 else none
 else bif decide (((List.length (α:=I) [])+List.length e.2.1+1)*16≤lim) then
  bif decide (0≤a.2.2.1) then
  optC ([]++e.2.1)[Int.toNat a.2.2.1]? (none) fun d11=>
  optC ([]++e.2.1)[Int.toNat a.2.2.1]? (none) fun d12=>
  bif decide (0≤a.2.2.2.1) then
  optC (([]++e.2.1).set (Int.toNat a.2.2.1) d10.1)[Int.toNat a.2.2.2.1]? (none) fun d13=>
  optC (([]++e.2.1).set (Int.toNat a.2.2.1) d10.1)[Int.toNat a.2.2.2.1]? (none) fun d14=>
  optC (Kb (a.2.2.2.2.2.2.1,())) (none) fun d15=>
  bif decide (0≤a.2.2.1) then
  optC e.2.1[Int.toNat a.2.2.1]? (none) fun d16=>
  bif decide (0≤a.2.2.2.1) then
  optC e.2.1[Int.toNat a.2.2.2.1]? (none) fun d17=>
  optC (ZP (d15,d16,d17,())) (none) fun d18=>
  bif a.2.2.1==a.2.2.2.1 then
  optC (Zz (d18.1,d18.2.1,())) (none) fun d19=>
  bif decide (d19.1>d19.2) then
  some ((e.1,(([]++e.2.1).set (Int.toNat a.2.2.1) d10.1).set (Int.toNat a.2.2.2.1) d10.2.1,e.2.2.1,e.2.2.2.1,e.2.2.2.2.1,e.2.2.2.2.2),(false,[],[],[],0,0),[],[],[])
 else bif decide (d19.1>d19.2) then
  some ((e.1,(([]++e.2.1).set (Int.toNat a.2.2.1) d10.1).set (Int.toNat a.2.2.2.1) d10.2.1,e.2.2.1,e.2.2.2.1,e.2.2.2.2.1,e.2.2.2.2.2),(false,[],[],[],0,0),[],[],[])
 else bif decide (((List.length (α:=I) [])+List.length e.2.1+1)*16≤lim) then
  bif decide (0≤a.2.2.1) then
  optC ([]++e.2.1)[Int.toNat a.2.2.1]? (none) fun d20=>
  optC ([]++e.2.1)[Int.toNat a.2.2.1]? (none) fun d21=>
  bif decide (0≤a.2.2.2.1) then
  optC (([]++e.2.1).set (Int.toNat a.2.2.1) d19)[Int.toNat a.2.2.2.1]? (none) fun d22=>
  optC (([]++e.2.1).set (Int.toNat a.2.2.1) d19)[Int.toNat a.2.2.2.1]? (none) fun d23=>
  some ((e.1,(([]++e.2.1).set (Int.toNat a.2.2.1) d10.1).set (Int.toNat a.2.2.2.1) d10.2.1,e.2.2.1,e.2.2.2.1,e.2.2.2.2.1,e.2.2.2.2.2),(e.1,(([]++e.2.1).set (Int.toNat a.2.2.1) d19).set (Int.toNat a.2.2.2.1) d19,e.2.2.1,e.2.2.2.1,e.2.2.2.2.1,e.2.2.2.2.2),[],[],[])
 else none
 else none
 else none
 else bif decide (d18.1.1>d18.1.2) then
  some ((e.1,(([]++e.2.1).set (Int.toNat a.2.2.1) d10.1).set (Int.toNat a.2.2.2.1) d10.2.1,e.2.2.1,e.2.2.2.1,e.2.2.2.2.1,e.2.2.2.2.2),(false,[],[],[],0,0),[],[],[])
 else bif decide (d18.2.1.1>d18.2.1.2) then
  some ((e.1,(([]++e.2.1).set (Int.toNat a.2.2.1) d10.1).set (Int.toNat a.2.2.2.1) d10.2.1,e.2.2.1,e.2.2.2.1,e.2.2.2.2.1,e.2.2.2.2.2),(false,[],[],[],0,0),[],[],[])
 else bif decide (((List.length (α:=I) [])+List.length e.2.1+1)*16≤lim) then
  bif decide (0≤a.2.2.1) then
  optC ([]++e.2.1)[Int.toNat a.2.2.1]? (none) fun d19=>
  optC ([]++e.2.1)[Int.toNat a.2.2.1]? (none) fun d20=>
  bif decide (0≤a.2.2.2.1) then
  optC (([]++e.2.1).set (Int.toNat a.2.2.1) d18.1)[Int.toNat a.2.2.2.1]? (none) fun d21=>
  optC (([]++e.2.1).set (Int.toNat a.2.2.1) d18.1)[Int.toNat a.2.2.2.1]? (none) fun d22=>
  some ((e.1,(([]++e.2.1).set (Int.toNat a.2.2.1) d10.1).set (Int.toNat a.2.2.2.1) d10.2.1,e.2.2.1,e.2.2.2.1,e.2.2.2.2.1,e.2.2.2.2.2),(e.1,(([]++e.2.1).set (Int.toNat a.2.2.1) d18.1).set (Int.toNat a.2.2.2.1) d18.2.1,e.2.2.1,e.2.2.2.1,e.2.2.2.2.1,e.2.2.2.2.2),[],[],[])
 else none
 else none
 else none
 else none
 else none
 else none
 else none
 else none
 else none
 else none
 else bif a.1==12 then
  some ((e.1,e.2.1,e.2.2.1,e.2.2.2.1,e.2.2.2.2.1,e.2.2.2.2.2),(false,[],[],[],0,0),[],[],[])
 else bif a.1==13 then
  some ((false,[],[],[],0,0),(false,[],[],[],0,0),[10],[],[])
 else some ((false,[],[],[],0,0),(false,[],[],[],0,0),[],[],[])
def Za7 (a0:U) (a1 a2:Int) (a3:E) (a4:List En):Option O:=
 bif decide (0≤a1) then
 optC a0.2.2.2[a1.toNat]? none fun d6=>
 bif decide (0≤a2) then
 optC d6.2[a2.toNat]? none fun d7=>
 bif a3.1 then
 bF a0 a1 a2 a3 a4 d6 d7
 else some (((false,[],[],[],0,0):E),((false,[],[],[],0,0):E),[],[],[])
 else none
 else none
theorem ZVU (a0:U) (a1 a2:Int) (a3:E) (a4:List En):evGX (cxU ZPp [] 40 1048576) keeps 8 63 ZMe (.dat tO) ((a0,a1,a2,a3,a4,()):(U×(Int×(Int×(E×((List En)×Unit))))))=Za7 a0 a1 a2 a3 a4:=by kernel_rfl
def ZgJ (x:(U×(Int×(Int×(E×((List En)×Unit)))))):Option O:=Za7 x.1 x.2.1 x.2.2.1 x.2.2.2.1 x.2.2.2.2.1
def ZB2:List AV→Prog AV:=conP true ZMe (.dat tO) ZgJ
theorem ZMP:Zd Tryz.prog 63 ZB2:=Zc (calU ZPp [] 40 1048576 8 63) true (by rfl) (by rfl) (fun x r e=>(Zg _ _ _ _ _ _ _).trans ((ZVU x.1 x.2.1 x.2.2.1 x.2.2.2.1 x.2.2.2.2.1).trans e)) (.inl rfl)
end
section
open Go.Proofs Go.Proofs.YtbdcblpjemmipaaGreat
def ZFF (a0:A) (a1:E):Option O:=
 bif decide (0≤a0.2.2.1) then
 optC a1.2.1[Int.toNat a0.2.2.1]? none fun d3=>
 bif decide (0≤a0.2.2.2.1) then
 optC a1.2.1[Int.toNat a0.2.2.2.1]? none fun d4=>
 optC (ZJk (a0.2.2.2.2.2.2.1,d3,d4,())) none fun d5=>
 bif d5.2.1 then
 bif d5.2.2.1 then
 bif !decide (d5.1.1>d5.1.2) then
 optC (Zq (a1,a0.2.1,d5.1,())) none fun d6=>
 some ((d6.1,d6.2.1,d6.2.2.1,d6.2.2.2.1,d6.2.2.2.2.1,d6.2.2.2.2.2),((false,[],[],[],0,0):E),[7,8],[],[])
 else some (((false,[],[],[],0,0):E),((false,[],[],[],0,0):E),[7,8],[],[])
 else
 bif !decide (d5.1.1>d5.1.2) then
 optC (Zq (a1,a0.2.1,d5.1,())) none fun d6=>
 some ((d6.1,d6.2.1,d6.2.2.1,d6.2.2.2.1,d6.2.2.2.2.1,d6.2.2.2.2.2),((false,[],[],[],0,0):E),[7],[],[])
 else some (((false,[],[],[],0,0):E),((false,[],[],[],0,0):E),[7],[],[])
 else
 bif d5.2.2.1 then
 bif !decide (d5.1.1>d5.1.2) then
 optC (Zq (a1,a0.2.1,d5.1,())) none fun d6=>
 some ((d6.1,d6.2.1,d6.2.2.1,d6.2.2.2.1,d6.2.2.2.2.1,d6.2.2.2.2.2),((false,[],[],[],0,0):E),[8],[],[])
 else some (((false,[],[],[],0,0):E),((false,[],[],[],0,0):E),[8],[],[])
 else
 bif !decide (d5.1.1>d5.1.2) then
 optC (Zq (a1,a0.2.1,d5.1,())) none fun d6=>
 some ((d6.1,d6.2.1,d6.2.2.1,d6.2.2.2.1,d6.2.2.2.2.1,d6.2.2.2.2.2),((false,[],[],[],0,0):E),[],[],[])
 else some (((false,[],[],[],0,0):E),((false,[],[],[],0,0):E),[],[],[])
 else none
 else none
def Zx2 (x:A×(E×Unit)):Option O:=ZFF x.1 x.2.1
end
section
open Go.Proofs Go.Proofs.YtbdcblpjemmipaaGreat
def ZuI (a0:A) (a1:E):Option O:=
 optC (Zaz (a1.2.2.2.2.1,a0.2.2.2.2.1,())) none fun d3=>
 bif !d3 then
 optC (Zaz (a1.2.2.2.2.2,a0.2.2.2.2.1,())) none fun d4=>
 bif !d4 then some (((false,[],[],[],0,0):E),((false,[],[],[],0,0):E),[12],[],[])
 else
 optC (Zfi (a1.2.2.2.2.1,[a0.2.2.2.2.1],())) none fun d5=>
 optC (Zfi (a1.2.2.2.2.2,[a0.2.2.2.2.1],())) none fun d6=>
 some ((a1.1,a1.2.1,a1.2.2.1,a1.2.2.2.1,d5,d6),((false,[],[],[],0,0):E),[12],[],[])
 else
 optC (Zaz (a1.2.2.2.2.2,a0.2.2.2.2.1,())) none fun d4=>
 bif !d4 then some (((false,[],[],[],0,0):E),((false,[],[],[],0,0):E),[],[],[])
 else
 optC (Zfi (a1.2.2.2.2.1,[a0.2.2.2.2.1],())) none fun d5=>
 optC (Zfi (a1.2.2.2.2.2,[a0.2.2.2.2.1],())) none fun d6=>
 some ((a1.1,a1.2.1,a1.2.2.1,a1.2.2.2.1,d5,d6),((false,[],[],[],0,0):E),[],[],[])
def Zow (x:A×(E×Unit)):Option O:=ZuI x.1 x.2.1
end
section
open Go.Proofs Go.Proofs.YtbdcblpjemmipaaGreat
def ZsI (a0:A) (a1:E) (a2:Int):Option E:=
 bif decide (0≤a0.2.2.1) then
 optC a1.2.1[Int.toNat a0.2.2.1]? none fun d4=>
 bif decide (0≤a0.2.2.2.1) then
 optC a1.2.1[Int.toNat a0.2.2.2.1]? none fun d5=>
 optC (Zp9 (a2,d4,d5,())) none fun d6=>
 bif a0.2.2.1==a0.2.2.2.1 then
 optC (ZU (d6.1,d6.2.1,())) none fun d7=>
 bif decide (d7.1>d7.2) then some ((false,[],[],[],0,0):E)
 else
 bif decide (d7.1>d7.2) then some ((false,[],[],[],0,0):E)
 else
 optC (Zq (a1,a0.2.2.1,d7,())) none fun d8=>
 optC (Zq (d8,a0.2.2.2.1,d7,())) none fun d9=>
 some (d9.1,d9.2.1,d9.2.2.1,d9.2.2.2.1,d9.2.2.2.2.1,d9.2.2.2.2.2)
 else
 bif decide (d6.1.1>d6.1.2) then some ((false,[],[],[],0,0):E)
 else
 bif decide (d6.2.1.1>d6.2.1.2) then some ((false,[],[],[],0,0):E)
 else
 optC (Zq (a1,a0.2.2.1,d6.1,())) none fun d7=>
 optC (Zq (d7,a0.2.2.2.1,d6.2.1,())) none fun d8=>
 some (d8.1,d8.2.1,d8.2.2.1,d8.2.2.2.1,d8.2.2.2.2.1,d8.2.2.2.2.2)
 else none
 else none
def Zfk (x:(A×(E×(Int×Unit)))):Option E:=ZsI x.1 x.2.1 x.2.2.1
end
section
open Go.Proofs Go.Proofs.YtbdcblpjemmipaaGreat
def ZFG (a0:Int):Option Int:=
 bif a0==1 then some 5
 else bif a0==2 then some 6 else bif a0==3 then some 4 else bif a0==4 then some 3 else bif a0==5 then some 1 else bif a0==6 then some 2 else some a0
def ZrK (x:Int×Unit):Option Int:=ZFG x.1
end
section
open Go.Proofs Go.Proofs.YtbdcblpjemmipaaGreat
def bR (u:U) (t n:Int) (e:E) (l:List En) (c:C) (a:A):Option O:=
 bif a.1==1 then
  optC (Zq (e,a.2.1,(a.2.2.2.2.2.1,a.2.2.2.2.2.1),())) (none) fun d8=>
  some ((d8.1,d8.2.1,d8.2.2.1,d8.2.2.2.1,d8.2.2.2.2.1,d8.2.2.2.2.2),(false,[],[],[],0,0),[],[],[])
 else bif a.1==2 then
  bif decide (0≤a.2.2.1) then
  optC e.2.1[Int.toNat a.2.2.1]? (none) fun d8=>
  optC (Zq (e,a.2.1,d8,())) (none) fun d9=>
  some ((d9.1,d9.2.1,d9.2.2.1,d9.2.2.2.1,d9.2.2.2.2.1,d9.2.2.2.2.2),(false,[],[],[],0,0),[],[],[])
 else none
 else bif a.1==3 then
  optC (Zq (e,a.2.1,(-2147483648,2147483647),())) (none) fun d8=>
  some ((d8.1,d8.2.1,d8.2.2.1,d8.2.2.2.1,d8.2.2.2.2.1,d8.2.2.2.2.2),(false,[],[],[],0,0),[],[],[])
 else bif a.1==4 then
  optC (Zx2 (a,e,())) (none) fun d8=>
  bif decide (0<(↑(List.length d8.2.2.2.2):Int)) then
  optC d8.2.2.2.2[Int.toNat 0]? (none) fun d9=>
  none
 else some ((d8.1.1,d8.1.2.1,d8.1.2.2.1,d8.1.2.2.2.1,d8.1.2.2.2.2.1,d8.1.2.2.2.2.2),(d8.2.1.1,d8.2.1.2.1,d8.2.1.2.2.1,d8.2.1.2.2.2.1,d8.2.1.2.2.2.2.1,d8.2.1.2.2.2.2.2),d8.2.2.1,d8.2.2.2.1,d8.2.2.2.2)
 else bif a.1==5 then
  optC (Qu (t,e,l,false,a.2.2.2.2.1,())) (none) fun d8=>
  optC (Zq (e,a.2.1,d8,())) (none) fun d9=>
  some ((d9.1,d9.2.1,d9.2.2.1,d9.2.2.2.1,d9.2.2.2.2.1,d9.2.2.2.2.2),(false,[],[],[],0,0),[],[],[(t,n,false,a.2.2.2.2.1,false,e.2.2.2.2.1)])
 else bif a.1==6 then
  bif decide (((List.length (α:=I) [])+List.length e.2.2.1+1)*16≤lim) then
  bif decide (0≤a.2.2.1) then
  optC e.2.1[Int.toNat a.2.2.1]? (none) fun d8=>
  bif decide (0≤a.2.2.2.2.1) then
  optC ([]++e.2.2.1)[Int.toNat a.2.2.2.2.1]? (none) fun d9=>
  optC ([]++e.2.2.1)[Int.toNat a.2.2.2.2.1]? (none) fun d10=>
  bif decide (0≤a.2.2.1) then
  optC e.2.1[Int.toNat a.2.2.1]? (none) fun d11=>
  some ((e.1,e.2.1,([]++e.2.2.1).set (Int.toNat a.2.2.2.2.1) d8,e.2.2.2.1,e.2.2.2.2.1,e.2.2.2.2.2),(false,[],[],[],0,0),[],[(t,false,a.2.2.2.2.1,e.2.2.2.2.1,d11.1,d11.2)],[(t,n,false,a.2.2.2.2.1,true,e.2.2.2.2.1)])
 else none
 else none
 else none
 else none
 else bif a.1==7 then
  bif decide (0≤a.2.2.2.2.1) then
  optC u.2.1[Int.toNat a.2.2.2.2.1]? (none) fun d8=>
  bif decide (0≤a.2.2.1) then
  optC e.2.1[Int.toNat a.2.2.1]? (none) fun d9=>
  optC (Hq (d9,(0,IntKind.i64.wrap (d8 - 1)),())) (none) fun d10=>
  bif !d10 then
  optC (ZU (d9,(0,IntKind.i64.wrap (d8 - 1)),())) (none) fun d11=>
  bif a.1==8 then
  bif decide (0≤a.2.2.2.1) then
  optC e.2.1[Int.toNat a.2.2.2.1]? (none) fun d12=>
  bif decide (d11.1>d11.2) then
  some ((false,[],[],[],0,0),(false,[],[],[],0,0),[9],[(t,true,a.2.2.2.2.1,e.2.2.2.2.1,d12.1,d12.2)],[(t,n,true,a.2.2.2.2.1,a.1==8,e.2.2.2.2.1)])
 else optC (Zq (e,a.2.2.1,d11,())) (none) fun d13=>
  bif a.1==7 then
  optC (Qu (t,d13,l,true,a.2.2.2.2.1,())) (none) fun d14=>
  optC (Zq (d13,a.2.1,d14,())) (none) fun d15=>
  some ((d15.1,d15.2.1,d15.2.2.1,d15.2.2.2.1,d15.2.2.2.2.1,d15.2.2.2.2.2),(false,[],[],[],0,0),[9],[(t,true,a.2.2.2.2.1,e.2.2.2.2.1,d12.1,d12.2)],[(t,n,true,a.2.2.2.2.1,a.1==8,e.2.2.2.2.1)])
 else bif decide (((List.length (α:=I) [])+List.length d13.2.2.2.1+1)*16≤lim) then
  bif decide (0≤a.2.2.2.2.1) then
  optC ([]++d13.2.2.2.1)[Int.toNat a.2.2.2.2.1]? (none) fun d14=>
  optC ([]++d13.2.2.2.1)[Int.toNat a.2.2.2.2.1]? (none) fun d15=>
  bif decide (0≤a.2.2.2.1) then
  optC d13.2.1[Int.toNat a.2.2.2.1]? (none) fun d16=>
  optC (ZD (d15,d16,())) (none) fun d17=>
  bif decide (0≤a.2.2.2.2.1) then
  optC ([]++d13.2.2.2.1)[Int.toNat a.2.2.2.2.1]? (none) fun d18=>
  optC ([]++d13.2.2.2.1)[Int.toNat a.2.2.2.2.1]? (none) fun d19=>
  some ((d13.1,d13.2.1,d13.2.2.1,([]++d13.2.2.2.1).set (Int.toNat a.2.2.2.2.1) d17,d13.2.2.2.2.1,d13.2.2.2.2.2),(false,[],[],[],0,0),[9],[(t,true,a.2.2.2.2.1,e.2.2.2.2.1,d12.1,d12.2)],[(t,n,true,a.2.2.2.2.1,a.1==8,e.2.2.2.2.1)])
 else none
 else none
 else none
 else none
 else none
 else bif decide (d11.1>d11.2) then
  some ((false,[],[],[],0,0),(false,[],[],[],0,0),[9],[],[(t,n,true,a.2.2.2.2.1,a.1==8,e.2.2.2.2.1)])
 else optC (Zq (e,a.2.2.1,d11,())) (none) fun d12=>
  bif a.1==7 then
  optC (Qu (t,d12,l,true,a.2.2.2.2.1,())) (none) fun d13=>
  optC (Zq (d12,a.2.1,d13,())) (none) fun d14=>
  some ((d14.1,d14.2.1,d14.2.2.1,d14.2.2.2.1,d14.2.2.2.2.1,d14.2.2.2.2.2),(false,[],[],[],0,0),[9],[],[(t,n,true,a.2.2.2.2.1,a.1==8,e.2.2.2.2.1)])
 else bif decide (((List.length (α:=I) [])+List.length d12.2.2.2.1+1)*16≤lim) then
  bif decide (0≤a.2.2.2.2.1) then
  optC ([]++d12.2.2.2.1)[Int.toNat a.2.2.2.2.1]? (none) fun d13=>
  optC ([]++d12.2.2.2.1)[Int.toNat a.2.2.2.2.1]? (none) fun d14=>
  bif decide (0≤a.2.2.2.1) then
  optC d12.2.1[Int.toNat a.2.2.2.1]? (none) fun d15=>
  optC (ZD (d14,d15,())) (none) fun d16=>
  bif decide (0≤a.2.2.2.2.1) then
  optC ([]++d12.2.2.2.1)[Int.toNat a.2.2.2.2.1]? (none) fun d17=>
  optC ([]++d12.2.2.2.1)[Int.toNat a.2.2.2.2.1]? (none) fun d18=>
  some ((d12.1,d12.2.1,d12.2.2.1,([]++d12.2.2.2.1).set (Int.toNat a.2.2.2.2.1) d16,d12.2.2.2.2.1,d12.2.2.2.2.2),(false,[],[],[],0,0),[9],[],[(t,n,true,a.2.2.2.2.1,a.1==8,e.2.2.2.2.1)])
 else none
 else none
 else none
 else none
 else optC (ZU (d9,(0,IntKind.i64.wrap (d8 - 1)),())) (none) fun d11=>
  bif a.1==8 then
  bif decide (0≤a.2.2.2.1) then
  optC e.2.1[Int.toNat a.2.2.2.1]? (none) fun d12=>
  bif decide (d11.1>d11.2) then
  some ((false,[],[],[],0,0),(false,[],[],[],0,0),[],[(t,true,a.2.2.2.2.1,e.2.2.2.2.1,d12.1,d12.2)],[(t,n,true,a.2.2.2.2.1,a.1==8,e.2.2.2.2.1)])
 else optC (Zq (e,a.2.2.1,d11,())) (none) fun d13=>
  bif a.1==7 then
  optC (Qu (t,d13,l,true,a.2.2.2.2.1,())) (none) fun d14=>
  optC (Zq (d13,a.2.1,d14,())) (none) fun d15=>
  some ((d15.1,d15.2.1,d15.2.2.1,d15.2.2.2.1,d15.2.2.2.2.1,d15.2.2.2.2.2),(false,[],[],[],0,0),[],[(t,true,a.2.2.2.2.1,e.2.2.2.2.1,d12.1,d12.2)],[(t,n,true,a.2.2.2.2.1,a.1==8,e.2.2.2.2.1)])
 else bif decide (((List.length (α:=I) [])+List.length d13.2.2.2.1+1)*16≤lim) then
  bif decide (0≤a.2.2.2.2.1) then
  optC ([]++d13.2.2.2.1)[Int.toNat a.2.2.2.2.1]? (none) fun d14=>
  optC ([]++d13.2.2.2.1)[Int.toNat a.2.2.2.2.1]? (none) fun d15=>
  bif decide (0≤a.2.2.2.1) then
  optC d13.2.1[Int.toNat a.2.2.2.1]? (none) fun d16=>
  optC (ZD (d15,d16,())) (none) fun d17=>
  bif decide (0≤a.2.2.2.2.1) then
  optC ([]++d13.2.2.2.1)[Int.toNat a.2.2.2.2.1]? (none) fun d18=>
  optC ([]++d13.2.2.2.1)[Int.toNat a.2.2.2.2.1]? (none) fun d19=>
  some ((d13.1,d13.2.1,d13.2.2.1,([]++d13.2.2.2.1).set (Int.toNat a.2.2.2.2.1) d17,d13.2.2.2.2.1,d13.2.2.2.2.2),(false,[],[],[],0,0),[],[(t,true,a.2.2.2.2.1,e.2.2.2.2.1,d12.1,d12.2)],[(t,n,true,a.2.2.2.2.1,a.1==8,e.2.2.2.2.1)])
 else none
 else none
 else none
 else none
 else none
 else bif decide (d11.1>d11.2) then
  some ((false,[],[],[],0,0),(false,[],[],[],0,0),[],[],[(t,n,true,a.2.2.2.2.1,a.1==8,e.2.2.2.2.1)])
 else optC (Zq (e,a.2.2.1,d11,())) (none) fun d12=>
  bif a.1==7 then
  optC (Qu (t,d12,l,true,a.2.2.2.2.1,())) (none) fun d13=>
  optC (Zq (d12,a.2.1,d13,())) (none) fun d14=>
  some ((d14.1,d14.2.1,d14.2.2.1,d14.2.2.2.1,d14.2.2.2.2.1,d14.2.2.2.2.2),(false,[],[],[],0,0),[],[],[(t,n,true,a.2.2.2.2.1,a.1==8,e.2.2.2.2.1)])
 else bif decide (((List.length (α:=I) [])+List.length d12.2.2.2.1+1)*16≤lim) then
  bif decide (0≤a.2.2.2.2.1) then
  optC ([]++d12.2.2.2.1)[Int.toNat a.2.2.2.2.1]? (none) fun d13=>
  optC ([]++d12.2.2.2.1)[Int.toNat a.2.2.2.2.1]? (none) fun d14=>
  bif decide (0≤a.2.2.2.1) then
  optC d12.2.1[Int.toNat a.2.2.2.1]? (none) fun d15=>
  optC (ZD (d14,d15,())) (none) fun d16=>
  bif decide (0≤a.2.2.2.2.1) then
  optC ([]++d12.2.2.2.1)[Int.toNat a.2.2.2.2.1]? (none) fun d17=>
  optC ([]++d12.2.2.2.1)[Int.toNat a.2.2.2.2.1]? (none) fun d18=>
  some ((d12.1,d12.2.1,d12.2.2.1,([]++d12.2.2.2.1).set (Int.toNat a.2.2.2.2.1) d16,d12.2.2.2.2.1,d12.2.2.2.2.2),(false,[],[],[],0,0),[],[],[(t,n,true,a.2.2.2.2.1,a.1==8,e.2.2.2.2.1)])
 else none
 else none
 else none
 else none
 else none
 else none
 else bif a.1==8 then
  bif decide (0≤a.2.2.2.2.1) then
  optC u.2.1[Int.toNat a.2.2.2.2.1]? (none) fun d8=>
  bif decide (0≤a.2.2.1) then
  optC e.2.1[Int.toNat a.2.2.1]? (none) fun d9=>
  optC (Hq (d9,(0,IntKind.i64.wrap (d8 - 1)),())) (none) fun d10=>
  bif !d10 then
  optC (ZU (d9,(0,IntKind.i64.wrap (d8 - 1)),())) (none) fun d11=>
  bif a.1==8 then
  bif decide (0≤a.2.2.2.1) then
  optC e.2.1[Int.toNat a.2.2.2.1]? (none) fun d12=>
  bif decide (d11.1>d11.2) then
  some ((false,[],[],[],0,0),(false,[],[],[],0,0),[9],[(t,true,a.2.2.2.2.1,e.2.2.2.2.1,d12.1,d12.2)],[(t,n,true,a.2.2.2.2.1,a.1==8,e.2.2.2.2.1)])
 else optC (Zq (e,a.2.2.1,d11,())) (none) fun d13=>
  bif a.1==7 then
  optC (Qu (t,d13,l,true,a.2.2.2.2.1,())) (none) fun d14=>
  optC (Zq (d13,a.2.1,d14,())) (none) fun d15=>
  some ((d15.1,d15.2.1,d15.2.2.1,d15.2.2.2.1,d15.2.2.2.2.1,d15.2.2.2.2.2),(false,[],[],[],0,0),[9],[(t,true,a.2.2.2.2.1,e.2.2.2.2.1,d12.1,d12.2)],[(t,n,true,a.2.2.2.2.1,a.1==8,e.2.2.2.2.1)])
 else bif decide (((List.length (α:=I) [])+List.length d13.2.2.2.1+1)*16≤lim) then
  bif decide (0≤a.2.2.2.2.1) then
  optC ([]++d13.2.2.2.1)[Int.toNat a.2.2.2.2.1]? (none) fun d14=>
  optC ([]++d13.2.2.2.1)[Int.toNat a.2.2.2.2.1]? (none) fun d15=>
  bif decide (0≤a.2.2.2.1) then
  optC d13.2.1[Int.toNat a.2.2.2.1]? (none) fun d16=>
  optC (ZD (d15,d16,())) (none) fun d17=>
  bif decide (0≤a.2.2.2.2.1) then
  optC ([]++d13.2.2.2.1)[Int.toNat a.2.2.2.2.1]? (none) fun d18=>
  optC ([]++d13.2.2.2.1)[Int.toNat a.2.2.2.2.1]? (none) fun d19=>
  some ((d13.1,d13.2.1,d13.2.2.1,([]++d13.2.2.2.1).set (Int.toNat a.2.2.2.2.1) d17,d13.2.2.2.2.1,d13.2.2.2.2.2),(false,[],[],[],0,0),[9],[(t,true,a.2.2.2.2.1,e.2.2.2.2.1,d12.1,d12.2)],[(t,n,true,a.2.2.2.2.1,a.1==8,e.2.2.2.2.1)])
 else none
 else none
 else none
 else none
 else none
 else bif decide (d11.1>d11.2) then
  some ((false,[],[],[],0,0),(false,[],[],[],0,0),[9],[],[(t,n,true,a.2.2.2.2.1,a.1==8,e.2.2.2.2.1)])
 else optC (Zq (e,a.2.2.1,d11,())) (none) fun d12=>
  bif a.1==7 then
  optC (Qu (t,d12,l,true,a.2.2.2.2.1,())) (none) fun d13=>
  optC (Zq (d12,a.2.1,d13,())) (none) fun d14=>
  some ((d14.1,d14.2.1,d14.2.2.1,d14.2.2.2.1,d14.2.2.2.2.1,d14.2.2.2.2.2),(false,[],[],[],0,0),[9],[],[(t,n,true,a.2.2.2.2.1,a.1==8,e.2.2.2.2.1)])
 else bif decide (((List.length (α:=I) [])+List.length d12.2.2.2.1+1)*16≤lim) then
  bif decide (0≤a.2.2.2.2.1) then
  optC ([]++d12.2.2.2.1)[Int.toNat a.2.2.2.2.1]? (none) fun d13=>
  optC ([]++d12.2.2.2.1)[Int.toNat a.2.2.2.2.1]? (none) fun d14=>
  bif decide (0≤a.2.2.2.1) then
  optC d12.2.1[Int.toNat a.2.2.2.1]? (none) fun d15=>
  optC (ZD (d14,d15,())) (none) fun d16=>
  bif decide (0≤a.2.2.2.2.1) then
  optC ([]++d12.2.2.2.1)[Int.toNat a.2.2.2.2.1]? (none) fun d17=>
  optC ([]++d12.2.2.2.1)[Int.toNat a.2.2.2.2.1]? (none) fun d18=>
  some ((d12.1,d12.2.1,d12.2.2.1,([]++d12.2.2.2.1).set (Int.toNat a.2.2.2.2.1) d16,d12.2.2.2.2.1,d12.2.2.2.2.2),(false,[],[],[],0,0),[9],[],[(t,n,true,a.2.2.2.2.1,a.1==8,e.2.2.2.2.1)])
 else none
 else none
 else none
 else none
 else optC (ZU (d9,(0,IntKind.i64.wrap (d8 - 1)),())) (none) fun d11=>
  bif a.1==8 then
  bif decide (0≤a.2.2.2.1) then
  optC e.2.1[Int.toNat a.2.2.2.1]? (none) fun d12=>
  bif decide (d11.1>d11.2) then
  some ((false,[],[],[],0,0),(false,[],[],[],0,0),[],[(t,true,a.2.2.2.2.1,e.2.2.2.2.1,d12.1,d12.2)],[(t,n,true,a.2.2.2.2.1,a.1==8,e.2.2.2.2.1)])
 else optC (Zq (e,a.2.2.1,d11,())) (none) fun d13=>
  bif a.1==7 then
  optC (Qu (t,d13,l,true,a.2.2.2.2.1,())) (none) fun d14=>
  optC (Zq (d13,a.2.1,d14,())) (none) fun d15=>
  some ((d15.1,d15.2.1,d15.2.2.1,d15.2.2.2.1,d15.2.2.2.2.1,d15.2.2.2.2.2),(false,[],[],[],0,0),[],[(t,true,a.2.2.2.2.1,e.2.2.2.2.1,d12.1,d12.2)],[(t,n,true,a.2.2.2.2.1,a.1==8,e.2.2.2.2.1)])
 else bif decide (((List.length (α:=I) [])+List.length d13.2.2.2.1+1)*16≤lim) then
  bif decide (0≤a.2.2.2.2.1) then
  optC ([]++d13.2.2.2.1)[Int.toNat a.2.2.2.2.1]? (none) fun d14=>
  optC ([]++d13.2.2.2.1)[Int.toNat a.2.2.2.2.1]? (none) fun d15=>
  bif decide (0≤a.2.2.2.1) then
  optC d13.2.1[Int.toNat a.2.2.2.1]? (none) fun d16=>
  optC (ZD (d15,d16,())) (none) fun d17=>
  bif decide (0≤a.2.2.2.2.1) then
  optC ([]++d13.2.2.2.1)[Int.toNat a.2.2.2.2.1]? (none) fun d18=>
  optC ([]++d13.2.2.2.1)[Int.toNat a.2.2.2.2.1]? (none) fun d19=>
  some ((d13.1,d13.2.1,d13.2.2.1,([]++d13.2.2.2.1).set (Int.toNat a.2.2.2.2.1) d17,d13.2.2.2.2.1,d13.2.2.2.2.2),(false,[],[],[],0,0),[],[(t,true,a.2.2.2.2.1,e.2.2.2.2.1,d12.1,d12.2)],[(t,n,true,a.2.2.2.2.1,a.1==8,e.2.2.2.2.1)])
 else none
 else none
 else none
 else none
 else none
 else bif decide (d11.1>d11.2) then
  some ((false,[],[],[],0,0),(false,[],[],[],0,0),[],[],[(t,n,true,a.2.2.2.2.1,a.1==8,e.2.2.2.2.1)])
 else optC (Zq (e,a.2.2.1,d11,())) (none) fun d12=>
  bif a.1==7 then
  optC (Qu (t,d12,l,true,a.2.2.2.2.1,())) (none) fun d13=>
  optC (Zq (d12,a.2.1,d13,())) (none) fun d14=>
  some ((d14.1,d14.2.1,d14.2.2.1,d14.2.2.2.1,d14.2.2.2.2.1,d14.2.2.2.2.2),(false,[],[],[],0,0),[],[],[(t,n,true,a.2.2.2.2.1,a.1==8,e.2.2.2.2.1)])
 else bif decide (((List.length (α:=I) [])+List.length d12.2.2.2.1+1)*16≤lim) then
  bif decide (0≤a.2.2.2.2.1) then
  optC ([]++d12.2.2.2.1)[Int.toNat a.2.2.2.2.1]? (none) fun d13=>
  optC ([]++d12.2.2.2.1)[Int.toNat a.2.2.2.2.1]? (none) fun d14=>
  bif decide (0≤a.2.2.2.1) then
  optC d12.2.1[Int.toNat a.2.2.2.1]? (none) fun d15=>
  optC (ZD (d14,d15,())) (none) fun d16=>
  bif decide (0≤a.2.2.2.2.1) then
  optC ([]++d12.2.2.2.1)[Int.toNat a.2.2.2.2.1]? (none) fun d17=>
  optC ([]++d12.2.2.2.1)[Int.toNat a.2.2.2.2.1]? (none) fun d18=>
  some ((d12.1,d12.2.1,d12.2.2.1,([]++d12.2.2.2.1).set (Int.toNat a.2.2.2.2.1) d16,d12.2.2.2.2.1,d12.2.2.2.2.2),(false,[],[],[],0,0),[],[],[(t,n,true,a.2.2.2.2.1,a.1==8,e.2.2.2.2.1)])
 else none
 else none
 else none
 else none
 else none
 else none
 else bif a.1==9 then
  optC (ZrJ (t,a,e,l,())) (none) fun d8=>
  bif decide (0<(↑(List.length d8.2.2.2.2):Int)) then
  optC d8.2.2.2.2[Int.toNat 0]? (none) fun d9=>
  none
 else some ((d8.1.1,d8.1.2.1,d8.1.2.2.1,d8.1.2.2.2.1,d8.1.2.2.2.2.1,d8.1.2.2.2.2.2),(d8.2.1.1,d8.2.1.2.1,d8.2.1.2.2.1,d8.2.1.2.2.2.1,d8.2.1.2.2.2.2.1,d8.2.1.2.2.2.2.2),d8.2.2.1,d8.2.2.2.1,d8.2.2.2.2)
 else bif a.1==10 then
  optC (Zow (a,e,())) (none) fun d8=>
  bif decide (0<(↑(List.length d8.2.2.2.2):Int)) then
  optC d8.2.2.2.2[Int.toNat 0]? (none) fun d9=>
  none
 else some ((d8.1.1,d8.1.2.1,d8.1.2.2.1,d8.1.2.2.2.1,d8.1.2.2.2.2.1,d8.1.2.2.2.2.2),(d8.2.1.1,d8.2.1.2.1,d8.2.1.2.2.1,d8.2.1.2.2.2.1,d8.2.1.2.2.2.2.1,d8.2.1.2.2.2.2.2),d8.2.2.1,d8.2.2.2.1,d8.2.2.2.2)
 else bif a.1==11 then
  optC (Zfk (a,e,a.2.2.2.2.2.2.1,())) (none) fun d8=>
  optC (ZrK (a.2.2.2.2.2.2.1,())) (none) fun d9=>
  optC (Zfk (a,e,d9,())) (none) fun d10=>
  some ((d8.1,d8.2.1,d8.2.2.1,d8.2.2.2.1,d8.2.2.2.2.1,d8.2.2.2.2.2),(d10.1,d10.2.1,d10.2.2.1,d10.2.2.2.1,d10.2.2.2.2.1,d10.2.2.2.2.2),[],[],[])
 else bif a.1==13 then
  some ((false,[],[],[],0,0),(false,[],[],[],0,0),[10],[],[])
 else bif a.1==14 then
  some ((false,[],[],[],0,0),(false,[],[],[],0,0),[],[],[])
 else some ((e.1,e.2.1,e.2.2.1,e.2.2.2.1,e.2.2.2.2.1,e.2.2.2.2.2),(false,[],[],[],0,0),[],[],[])
def Zkw (a0:U) (a1 a2:Int) (a3:E) (a4:List En):Option O:=
 bif !a3.1 then some (((false,[],[],[],0,0):E),((false,[],[],[],0,0):E),[],[],[])
 else
 bif decide (0≤a1) then
 optC a0.2.2.2[a1.toNat]? none fun d6=>
 bif decide (0≤a2) then
 optC d6.2[a2.toNat]? none fun d7=>
 bR a0 a1 a2 a3 a4 d6 d7
 else none
 else none
def Zew (x:(U×(Int×(Int×(E×((List En)×Unit)))))):Option O:=Zkw x.1 x.2.1 x.2.2.1 x.2.2.2.1 x.2.2.2.2.1
end
end
end Go.Proofs.YtbdcblpjemmipaaGreat.Ex
