/- A part of the proofs of what is known of threads: GH. -/
import Derived.Test.YtbdcblpjemmipaaGreatGG
import Derived.Test.YtbdcblpjemmipaaGreatGF
import Derived.Test.YtbdcblpjemmipaaGreatGE
import Derived.Laws.CopyRow
import Derived.Lib.AppendZerosOnto
import Derived.Shelf.Spec.SlicesInsert
import Derived.Test.YtbdcblpjemmipaaGreatGD
namespace Go.Proofs.YtbdcblpjemmipaaGreat.Ex
open Go.Proofs
set_option maxRecDepth 100000
set_option maxHeartbeats 4000000
set_option linter.unusedVariables false
set_option linter.unusedSimpArgs false
set_option linter.unusedSectionVars false
noncomputable section
theorem ZS2 (u:U) (t n:Int) (e:E) (l:List En) (c:C) (a:A) (h0:0≤t) (hc:u.2.2.2[t.toNat]? = some c) (h1:0≤n) (ha:c.2[n.toNat]? = some a) (he:e.1=true):Za7 u t n e l=bF u t n e l c a:=by
 have e0:decide (0≤t)=true:=decide_eq_true h0
 have e1:decide (0≤n)=true:=decide_eq_true h1
 have e2:(!e.1)=false:=by rw [he];rfl
 unfold Za7
 rw [e0,hc,e1,cond_true,Zb,cond_true,ha,Zb]
 show (bif e.1 then _ else _)=_
 exact (congrArg (fun b=>bif b then bF u t n e l c a else _) he)
theorem F_1 (u:U) (t n:Int) (e:E) (l:List En) (c:C) (T X Y G N op nx el:Int):bF u t n e l c (1,T,X,Y,G,N,op,nx,el) =
 optC (Zuq ([N],())) (none) fun d8=>
  bif decide (((List.length (α:=I) [])+List.length e.2.1+1)*16≤lim) then
  bif decide (0≤T) then
  optC ([]++e.2.1)[Int.toNat T]? (none) fun d9=>
  optC ([]++e.2.1)[Int.toNat T]? (none) fun d10=>
  some ((e.1,([]++e.2.1).set (Int.toNat T) d8,e.2.2.1,e.2.2.2.1,e.2.2.2.2.1,e.2.2.2.2.2),(false,[],[],[],0,0),[],[],[])
 else none
 else none:=by kernel_rfl
theorem F_2 (u:U) (t n:Int) (e:E) (l:List En) (c:C) (T X Y G N op nx el:Int):bF u t n e l c (2,T,X,Y,G,N,op,nx,el) =
 bif decide (0≤X) then
  optC e.2.1[Int.toNat X]? (none) fun d8=>
  bif decide (((List.length (α:=I) [])+List.length e.2.1+1)*16≤lim) then
  bif decide (0≤T) then
  optC ([]++e.2.1)[Int.toNat T]? (none) fun d9=>
  optC ([]++e.2.1)[Int.toNat T]? (none) fun d10=>
  some ((e.1,([]++e.2.1).set (Int.toNat T) d8,e.2.2.1,e.2.2.2.1,e.2.2.2.2.1,e.2.2.2.2.2),(false,[],[],[],0,0),[],[],[])
 else none
 else none
 else none:=by kernel_rfl
theorem F_3 (u:U) (t n:Int) (e:E) (l:List En) (c:C) (T X Y G N op nx el:Int):bF u t n e l c (3,T,X,Y,G,N,op,nx,el) =
 bif decide (((List.length (α:=I) [])+List.length e.2.1+1)*16≤lim) then
  bif decide (0≤T) then
  optC ([]++e.2.1)[Int.toNat T]? (none) fun d8=>
  optC ([]++e.2.1)[Int.toNat T]? (none) fun d9=>
  some ((e.1,([]++e.2.1).set (Int.toNat T) (-2147483648,2147483647),e.2.2.1,e.2.2.2.1,e.2.2.2.2.1,e.2.2.2.2.2),(false,[],[],[],0,0),[],[],[])
 else none
 else none:=by kernel_rfl
theorem F_4 (u:U) (t n:Int) (e:E) (l:List En) (c:C) (T X Y G N op nx el:Int):bF u t n e l c (4,T,X,Y,G,N,op,nx,el) =
 bif decide (0≤X) then
  optC e.2.1[Int.toNat X]? (none) fun d8=>
  bif decide (0≤Y) then
  optC e.2.1[Int.toNat Y]? (none) fun d9=>
  optC (ZyY (op,d8,d9,())) (none) fun d10=>
  bif d10.2.1 then
  bif d10.2.2.1 then
  bif !decide (d10.1.1>d10.1.2) then
  bif decide (((List.length (α:=I) [])+List.length e.2.1+1)*16≤lim) then
  bif decide (0≤T) then
  optC ([]++e.2.1)[Int.toNat T]? (none) fun d11=>
  optC ([]++e.2.1)[Int.toNat T]? (none) fun d12=>
  some ((e.1,([]++e.2.1).set (Int.toNat T) d10.1,e.2.2.1,e.2.2.2.1,e.2.2.2.2.1,e.2.2.2.2.2),(false,[],[],[],0,0),[7,8],[],[])
 else none
 else none
 else some ((false,[],[],[],0,0),(false,[],[],[],0,0),[7,8],[],[])
 else bif !decide (d10.1.1>d10.1.2) then
  bif decide (((List.length (α:=I) [])+List.length e.2.1+1)*16≤lim) then
  bif decide (0≤T) then
  optC ([]++e.2.1)[Int.toNat T]? (none) fun d11=>
  optC ([]++e.2.1)[Int.toNat T]? (none) fun d12=>
  some ((e.1,([]++e.2.1).set (Int.toNat T) d10.1,e.2.2.1,e.2.2.2.1,e.2.2.2.2.1,e.2.2.2.2.2),(false,[],[],[],0,0),[7],[],[])
 else none
 else none
 else some ((false,[],[],[],0,0),(false,[],[],[],0,0),[7],[],[])
 else bif d10.2.2.1 then
  bif !decide (d10.1.1>d10.1.2) then
  bif decide (((List.length (α:=I) [])+List.length e.2.1+1)*16≤lim) then
  bif decide (0≤T) then
  optC ([]++e.2.1)[Int.toNat T]? (none) fun d11=>
  optC ([]++e.2.1)[Int.toNat T]? (none) fun d12=>
  some ((e.1,([]++e.2.1).set (Int.toNat T) d10.1,e.2.2.1,e.2.2.2.1,e.2.2.2.2.1,e.2.2.2.2.2),(false,[],[],[],0,0),[8],[],[])
 else none
 else none
 else some ((false,[],[],[],0,0),(false,[],[],[],0,0),[8],[],[])
 else bif !decide (d10.1.1>d10.1.2) then
  bif decide (((List.length (α:=I) [])+List.length e.2.1+1)*16≤lim) then
  bif decide (0≤T) then
  optC ([]++e.2.1)[Int.toNat T]? (none) fun d11=>
  optC ([]++e.2.1)[Int.toNat T]? (none) fun d12=>
  some ((e.1,([]++e.2.1).set (Int.toNat T) d10.1,e.2.2.1,e.2.2.2.1,e.2.2.2.2.1,e.2.2.2.2.2),(false,[],[],[],0,0),[],[],[])
 else none
 else none
 else some ((false,[],[],[],0,0),(false,[],[],[],0,0),[],[],[])
 else none
 else none:=by kernel_rfl
theorem F_5 (u:U) (t n:Int) (e:E) (l:List En) (c:C) (T X Y G N op nx el:Int):bF u t n e l c (5,T,X,Y,G,N,op,nx,el) =
 optC (Qn (u,t,e,l,false,G,())) (none) fun d8=>
  bif decide (((List.length (α:=I) [])+List.length e.2.1+1)*16≤lim) then
  bif decide (0≤T) then
  optC ([]++e.2.1)[Int.toNat T]? (none) fun d9=>
  optC ([]++e.2.1)[Int.toNat T]? (none) fun d10=>
  some ((e.1,([]++e.2.1).set (Int.toNat T) d8,e.2.2.1,e.2.2.2.1,e.2.2.2.2.1,e.2.2.2.2.2),(false,[],[],[],0,0),[],[],[(t,n,false,G,false,e.2.2.2.2.1)])
 else none
 else none:=by kernel_rfl
theorem F_6 (u:U) (t n:Int) (e:E) (l:List En) (c:C) (T X Y G N op nx el:Int):bF u t n e l c (6,T,X,Y,G,N,op,nx,el) =
 bif decide (0≤X) then
  optC e.2.1[Int.toNat X]? (none) fun d8=>
  bif decide (((List.length (α:=I) [])+List.length e.2.2.1+1)*16≤lim) then
  bif decide (0≤G) then
  optC ([]++e.2.2.1)[Int.toNat G]? (none) fun d9=>
  optC ([]++e.2.2.1)[Int.toNat G]? (none) fun d10=>
  some ((e.1,e.2.1,([]++e.2.2.1).set (Int.toNat G) d8,e.2.2.2.1,e.2.2.2.2.1,e.2.2.2.2.2),(false,[],[],[],0,0),[],[(t,false,G,e.2.2.2.2.1,d8.1,d8.2)],[(t,n,false,G,true,e.2.2.2.2.1)])
 else none
 else none
 else none:=by kernel_rfl
theorem F_7 (u:U) (t n:Int) (e:E) (l:List En) (c:C) (T X Y G N op nx el:Int):bF u t n e l c (7,T,X,Y,G,N,op,nx,el) =
 bif decide (0≤G) then
  optC u.2.1[Int.toNat G]? (none) fun d8=>
  bif decide (0≤X) then
  optC e.2.1[Int.toNat X]? (none) fun d9=>
  optC (Q0 (d9,(0,IntKind.i64.wrap (d8 - 1)),())) (none) fun d10=>
  bif !d10 then
  optC (Zz (d9,(0,IntKind.i64.wrap (d8 - 1)),())) (none) fun d11=>
  bif decide (d11.1>d11.2) then
  some ((false,[],[],[],0,0),(false,[],[],[],0,0),[9],[],[(t,n,true,G,7==8,e.2.2.2.2.1)])
 else bif decide (((List.length (α:=I) [])+List.length e.2.1+1)*16≤lim) then
  bif decide (0≤X) then
  optC ([]++e.2.1)[Int.toNat X]? (none) fun d12=>
  optC ([]++e.2.1)[Int.toNat X]? (none) fun d13=>
  optC (Qn (u,t,(e.1,([]++e.2.1).set (Int.toNat X) d11,e.2.2),l,true,G,())) (none) fun d14=>
  bif decide (((List.length (α:=I) [])+(([]++e.2.1).set (Int.toNat X) d11).length+1)*16≤lim) then
  bif decide (0≤T) then
  optC ([]++([]++e.2.1).set (Int.toNat X) d11)[Int.toNat T]? (none) fun d15=>
  optC ([]++([]++e.2.1).set (Int.toNat X) d11)[Int.toNat T]? (none) fun d16=>
  some ((e.1,([]++([]++e.2.1).set (Int.toNat X) d11).set (Int.toNat T) d14,e.2.2.1,e.2.2.2.1,e.2.2.2.2.1,e.2.2.2.2.2),(false,[],[],[],0,0),[9],[],[(t,n,true,G,7==8,e.2.2.2.2.1)])
 else none
 else none
 else none
 else none
 else optC (Zz (d9,(0,IntKind.i64.wrap (d8 - 1)),())) (none) fun d11=>
  bif decide (d11.1>d11.2) then
  some ((false,[],[],[],0,0),(false,[],[],[],0,0),[],[],[(t,n,true,G,7==8,e.2.2.2.2.1)])
 else bif decide (((List.length (α:=I) [])+List.length e.2.1+1)*16≤lim) then
  bif decide (0≤X) then
  optC ([]++e.2.1)[Int.toNat X]? (none) fun d12=>
  optC ([]++e.2.1)[Int.toNat X]? (none) fun d13=>
  optC (Qn (u,t,(e.1,([]++e.2.1).set (Int.toNat X) d11,e.2.2),l,true,G,())) (none) fun d14=>
  bif decide (((List.length (α:=I) [])+(([]++e.2.1).set (Int.toNat X) d11).length+1)*16≤lim) then
  bif decide (0≤T) then
  optC ([]++([]++e.2.1).set (Int.toNat X) d11)[Int.toNat T]? (none) fun d15=>
  optC ([]++([]++e.2.1).set (Int.toNat X) d11)[Int.toNat T]? (none) fun d16=>
  some ((e.1,([]++([]++e.2.1).set (Int.toNat X) d11).set (Int.toNat T) d14,e.2.2.1,e.2.2.2.1,e.2.2.2.2.1,e.2.2.2.2.2),(false,[],[],[],0,0),[],[],[(t,n,true,G,7==8,e.2.2.2.2.1)])
 else none
 else none
 else none
 else none
 else none
 else none:=by kernel_rfl
theorem F_8 (u:U) (t n:Int) (e:E) (l:List En) (c:C) (T X Y G N op nx el:Int):bF u t n e l c (8,T,X,Y,G,N,op,nx,el) =
 bif decide (0≤G) then
  optC u.2.1[Int.toNat G]? (none) fun d8=>
  bif decide (0≤X) then
  optC e.2.1[Int.toNat X]? (none) fun d9=>
  optC (Q0 (d9,(0,IntKind.i64.wrap (d8 - 1)),())) (none) fun d10=>
  bif !d10 then
  bif decide (0≤Y) then
  optC e.2.1[Int.toNat Y]? (none) fun d11=>
  optC (Zz (d9,(0,IntKind.i64.wrap (d8 - 1)),())) (none) fun d12=>
  bif decide (d12.1>d12.2) then
  some ((false,[],[],[],0,0),(false,[],[],[],0,0),[9],[(t,true,G,e.2.2.2.2.1,d11.1,d11.2)],[(t,n,true,G,8==8,e.2.2.2.2.1)])
 else bif decide (((List.length (α:=I) [])+List.length e.2.1+1)*16≤lim) then
  bif decide (0≤X) then
  optC ([]++e.2.1)[Int.toNat X]? (none) fun d13=>
  optC ([]++e.2.1)[Int.toNat X]? (none) fun d14=>
  bif decide (((List.length (α:=I) [])+List.length e.2.2.2.1+1)*16≤lim) then
  bif decide (0≤G) then
  optC ([]++e.2.2.2.1)[Int.toNat G]? (none) fun d15=>
  optC ([]++e.2.2.2.1)[Int.toNat G]? (none) fun d16=>
  bif decide (0≤Y) then
  optC (([]++e.2.1).set (Int.toNat X) d12)[Int.toNat Y]? (none) fun d17=>
  optC (([]++e.2.1).set (Int.toNat X) d12)[Int.toNat Y]? (none) fun d18=>
  optC (ZF ([d16,d18],())) (none) fun d19=>
  bif decide (0≤G) then
  optC ([]++e.2.2.2.1)[Int.toNat G]? (none) fun d20=>
  optC ([]++e.2.2.2.1)[Int.toNat G]? (none) fun d21=>
  some ((e.1,([]++e.2.1).set (Int.toNat X) d12,e.2.2.1,([]++e.2.2.2.1).set (Int.toNat G) d19,e.2.2.2.2.1,e.2.2.2.2.2),(false,[],[],[],0,0),[9],[(t,true,G,e.2.2.2.2.1,d11.1,d11.2)],[(t,n,true,G,8==8,e.2.2.2.2.1)])
 else none
 else none
 else none
 else none
 else none
 else none
 else none
 else bif decide (0≤Y) then
  optC e.2.1[Int.toNat Y]? (none) fun d11=>
  optC (Zz (d9,(0,IntKind.i64.wrap (d8 - 1)),())) (none) fun d12=>
  bif decide (d12.1>d12.2) then
  some ((false,[],[],[],0,0),(false,[],[],[],0,0),[],[(t,true,G,e.2.2.2.2.1,d11.1,d11.2)],[(t,n,true,G,8==8,e.2.2.2.2.1)])
 else bif decide (((List.length (α:=I) [])+List.length e.2.1+1)*16≤lim) then
  bif decide (0≤X) then
  optC ([]++e.2.1)[Int.toNat X]? (none) fun d13=>
  optC ([]++e.2.1)[Int.toNat X]? (none) fun d14=>
  bif decide (((List.length (α:=I) [])+List.length e.2.2.2.1+1)*16≤lim) then
  bif decide (0≤G) then
  optC ([]++e.2.2.2.1)[Int.toNat G]? (none) fun d15=>
  optC ([]++e.2.2.2.1)[Int.toNat G]? (none) fun d16=>
  bif decide (0≤Y) then
  optC (([]++e.2.1).set (Int.toNat X) d12)[Int.toNat Y]? (none) fun d17=>
  optC (([]++e.2.1).set (Int.toNat X) d12)[Int.toNat Y]? (none) fun d18=>
  optC (ZF ([d16,d18],())) (none) fun d19=>
  bif decide (0≤G) then
  optC ([]++e.2.2.2.1)[Int.toNat G]? (none) fun d20=>
  optC ([]++e.2.2.2.1)[Int.toNat G]? (none) fun d21=>
  some ((e.1,([]++e.2.1).set (Int.toNat X) d12,e.2.2.1,([]++e.2.2.2.1).set (Int.toNat G) d19,e.2.2.2.2.1,e.2.2.2.2.2),(false,[],[],[],0,0),[],[(t,true,G,e.2.2.2.2.1,d11.1,d11.2)],[(t,n,true,G,8==8,e.2.2.2.2.1)])
 else none
 else none
 else none
 else none
 else none
 else none
 else none
 else none
 else none:=by kernel_rfl
theorem F_9 (u:U) (t n:Int) (e:E) (l:List En) (c:C) (T X Y G N op nx el:Int):bF u t n e l c (9,T,X,Y,G,N,op,nx,el) =
 optC (ZW (e.2.2.2.2.2,G,())) (none) fun d8=>
  bif d8 then
  optC (ZW (e.2.2.2.2.1,G,())) (none) fun d9=>
  bif d9 then
  some ((false,[],[],[],0,0),(false,[],[],[],0,0),[11],[],[])
 else optC (Qe ((9,T,X,Y,G,N,op,nx,el,u.1,u.2.1,u.2.2.1,u.2.2.2,t,n,e.1,e.2.1,e.2.2.1,e.2.2.2.1,e.2.2.2.2.1,e.2.2.2.2.2,l,false,[],[],[],0,0,false,[],[],[],0,0,[11],[],[],()),e.2.2.1,false,())) (none) fun d10=>
  optC (Qe ((9,T,X,Y,G,N,op,nx,el,u.1,u.2.1,u.2.2.1,u.2.2.2,t,n,e.1,e.2.1,e.2.2.1,e.2.2.2.1,e.2.2.2.2.1,e.2.2.2.2.2,l,false,[],[],[],0,0,false,[],[],[],0,0,[11],[],[],()),e.2.2.2.1,true,())) (none) fun d11=>
  optC (Zak (e.2.2.2.2.1,[G],())) (none) fun d12=>
  optC (Zak (e.2.2.2.2.2,[G],())) (none) fun d13=>
  some ((e.1,e.2.1,d10,d11,d12,d13),(false,[],[],[],0,0),[11],[],[])
 else optC (ZW (e.2.2.2.2.1,G,())) (none) fun d9=>
  bif d9 then
  some ((false,[],[],[],0,0),(false,[],[],[],0,0),[],[],[])
 else optC (Qe ((9,T,X,Y,G,N,op,nx,el,u.1,u.2.1,u.2.2.1,u.2.2.2,t,n,e.1,e.2.1,e.2.2.1,e.2.2.2.1,e.2.2.2.2.1,e.2.2.2.2.2,l,false,[],[],[],0,0,false,[],[],[],0,0,[],[],[],()),e.2.2.1,false,())) (none) fun d10=>
  optC (Qe ((9,T,X,Y,G,N,op,nx,el,u.1,u.2.1,u.2.2.1,u.2.2.2,t,n,e.1,e.2.1,e.2.2.1,e.2.2.2.1,e.2.2.2.2.1,e.2.2.2.2.2,l,false,[],[],[],0,0,false,[],[],[],0,0,[],[],[],()),e.2.2.2.1,true,())) (none) fun d11=>
  optC (Zak (e.2.2.2.2.1,[G],())) (none) fun d12=>
  optC (Zak (e.2.2.2.2.2,[G],())) (none) fun d13=>
  some ((e.1,e.2.1,d10,d11,d12,d13),(false,[],[],[],0,0),[],[],[]):=by kernel_rfl
theorem Z2m (u:U) (t n:Int) (e:E) (l:List En) (c:C) (T X Y G N op nx el:Int):bF u t n e l c (10,T,X,Y,G,N,op,nx,el) =
 optC (ZW (e.2.2.2.2.1,G,())) (none) fun d8=>
  bif !d8 then
  optC (ZW (e.2.2.2.2.2,G,())) (none) fun d9=>
  bif !d9 then
  some ((false,[],[],[],0,0),(false,[],[],[],0,0),[12],[],[])
 else optC (Ju (e.2.2.2.2.1,[G],())) (none) fun d10=>
  optC (Ju (e.2.2.2.2.2,[G],())) (none) fun d11=>
  some ((e.1,e.2.1,e.2.2.1,e.2.2.2.1,d10,d11),(false,[],[],[],0,0),[12],[],[])
 else optC (ZW (e.2.2.2.2.2,G,())) (none) fun d9=>
  bif !d9 then
  some ((false,[],[],[],0,0),(false,[],[],[],0,0),[],[],[])
 else optC (Ju (e.2.2.2.2.1,[G],())) (none) fun d10=>
  optC (Ju (e.2.2.2.2.2,[G],())) (none) fun d11=>
  some ((e.1,e.2.1,e.2.2.1,e.2.2.2.1,d10,d11),(false,[],[],[],0,0),[],[],[]):=by kernel_rfl
theorem ZXt (u:U) (t n:Int) (e:E) (l:List En) (c:C) (T X Y G N op nx el:Int):bF u t n e l c (11,T,X,Y,G,N,op,nx,el) =
 bif decide (0≤X) then
  optC e.2.1[Int.toNat X]? (none) fun d8=>
  bif decide (0≤Y) then
  optC e.2.1[Int.toNat Y]? (none) fun d9=>
  optC (ZP (op,d8,d9,())) (none) fun d10=>
  bif X==Y then
  optC (Zz (d10.1,d10.2.1,())) (none) fun d11=>
  bif decide (d11.1>d11.2) then
  optC (Kb (op,())) (none) fun d12=>
  bif decide (0≤X) then
  optC e.2.1[Int.toNat X]? (none) fun d13=>
  bif decide (0≤Y) then
  optC e.2.1[Int.toNat Y]? (none) fun d14=>
  optC (ZP (d12,d13,d14,())) (none) fun d15=>
  bif X==Y then
  optC (Zz (d15.1,d15.2.1,())) (none) fun d16=>
  bif decide (d16.1>d16.2) then
  some ((false,[],[],[],0,0),(false,[],[],[],0,0),[],[],[])
 else bif decide (d16.1>d16.2) then
  some ((false,[],[],[],0,0),(false,[],[],[],0,0),[],[],[])
 else bif decide (((List.length (α:=I) [])+List.length e.2.1+1)*16≤lim) then
  bif decide (0≤X) then
  optC ([]++e.2.1)[Int.toNat X]? (none) fun d17=>
  optC ([]++e.2.1)[Int.toNat X]? (none) fun d18=>
  bif decide (0≤Y) then
  optC (([]++e.2.1).set (Int.toNat X) d16)[Int.toNat Y]? (none) fun d19=>
  optC (([]++e.2.1).set (Int.toNat X) d16)[Int.toNat Y]? (none) fun d20=>
  some ((false,[],[],[],0,0),(e.1,(([]++e.2.1).set (Int.toNat X) d16).set (Int.toNat Y) d16,e.2.2.1,e.2.2.2.1,e.2.2.2.2.1,e.2.2.2.2.2),[],[],[])
 else none
 else none
 else none
 else bif decide (d15.1.1>d15.1.2) then
  some ((false,[],[],[],0,0),(false,[],[],[],0,0),[],[],[])
 else bif decide (d15.2.1.1>d15.2.1.2) then
  some ((false,[],[],[],0,0),(false,[],[],[],0,0),[],[],[])
 else bif decide (((List.length (α:=I) [])+List.length e.2.1+1)*16≤lim) then
  bif decide (0≤X) then
  optC ([]++e.2.1)[Int.toNat X]? (none) fun d16=>
  optC ([]++e.2.1)[Int.toNat X]? (none) fun d17=>
  bif decide (0≤Y) then
  optC (([]++e.2.1).set (Int.toNat X) d15.1)[Int.toNat Y]? (none) fun d18=>
  optC (([]++e.2.1).set (Int.toNat X) d15.1)[Int.toNat Y]? (none) fun d19=>
  some ((false,[],[],[],0,0),(e.1,(([]++e.2.1).set (Int.toNat X) d15.1).set (Int.toNat Y) d15.2.1,e.2.2.1,e.2.2.2.1,e.2.2.2.2.1,e.2.2.2.2.2),[],[],[])
 else none
 else none
 else none
 else none
 else none
 else bif decide (d11.1>d11.2) then
  optC (Kb (op,())) (none) fun d12=>
  bif decide (0≤X) then
  optC e.2.1[Int.toNat X]? (none) fun d13=>
  bif decide (0≤Y) then
  optC e.2.1[Int.toNat Y]? (none) fun d14=>
  optC (ZP (d12,d13,d14,())) (none) fun d15=>
  bif X==Y then
  optC (Zz (d15.1,d15.2.1,())) (none) fun d16=>
  bif decide (d16.1>d16.2) then
  some ((false,[],[],[],0,0),(false,[],[],[],0,0),[],[],[])
 else bif decide (d16.1>d16.2) then
  some ((false,[],[],[],0,0),(false,[],[],[],0,0),[],[],[])
 else bif decide (((List.length (α:=I) [])+List.length e.2.1+1)*16≤lim) then
  bif decide (0≤X) then
  optC ([]++e.2.1)[Int.toNat X]? (none) fun d17=>
  optC ([]++e.2.1)[Int.toNat X]? (none) fun d18=>
  bif decide (0≤Y) then
  optC (([]++e.2.1).set (Int.toNat X) d16)[Int.toNat Y]? (none) fun d19=>
  optC (([]++e.2.1).set (Int.toNat X) d16)[Int.toNat Y]? (none) fun d20=>
  some ((false,[],[],[],0,0),(e.1,(([]++e.2.1).set (Int.toNat X) d16).set (Int.toNat Y) d16,e.2.2.1,e.2.2.2.1,e.2.2.2.2.1,e.2.2.2.2.2),[],[],[])
 else none
 else none
 else none
 else bif decide (d15.1.1>d15.1.2) then
  some ((false,[],[],[],0,0),(false,[],[],[],0,0),[],[],[])
 else bif decide (d15.2.1.1>d15.2.1.2) then
  some ((false,[],[],[],0,0),(false,[],[],[],0,0),[],[],[])
 else bif decide (((List.length (α:=I) [])+List.length e.2.1+1)*16≤lim) then
  bif decide (0≤X) then
  optC ([]++e.2.1)[Int.toNat X]? (none) fun d16=>
  optC ([]++e.2.1)[Int.toNat X]? (none) fun d17=>
  bif decide (0≤Y) then
  optC (([]++e.2.1).set (Int.toNat X) d15.1)[Int.toNat Y]? (none) fun d18=>
  optC (([]++e.2.1).set (Int.toNat X) d15.1)[Int.toNat Y]? (none) fun d19=>
  some ((false,[],[],[],0,0),(e.1,(([]++e.2.1).set (Int.toNat X) d15.1).set (Int.toNat Y) d15.2.1,e.2.2.1,e.2.2.2.1,e.2.2.2.2.1,e.2.2.2.2.2),[],[],[])
 else none
 else none
 else none
 else none
 else none
 else bif decide (((List.length (α:=I) [])+List.length e.2.1+1)*16≤lim) then
  bif decide (0≤X) then
  optC ([]++e.2.1)[Int.toNat X]? (none) fun d12=>
  optC ([]++e.2.1)[Int.toNat X]? (none) fun d13=>
  bif decide (0≤Y) then
  optC (([]++e.2.1).set (Int.toNat X) d11)[Int.toNat Y]? (none) fun d14=>
  optC (([]++e.2.1).set (Int.toNat X) d11)[Int.toNat Y]? (none) fun d15=>
  optC (Kb (op,())) (none) fun d16=>
  bif decide (0≤X) then
  optC e.2.1[Int.toNat X]? (none) fun d17=>
  bif decide (0≤Y) then
  optC e.2.1[Int.toNat Y]? (none) fun d18=>
  optC (ZP (d16,d17,d18,())) (none) fun d19=>
  bif X==Y then
  optC (Zz (d19.1,d19.2.1,())) (none) fun d20=>
  bif decide (d20.1>d20.2) then
  some ((e.1,(([]++e.2.1).set (Int.toNat X) d11).set (Int.toNat Y) d11,e.2.2.1,e.2.2.2.1,e.2.2.2.2.1,e.2.2.2.2.2),(false,[],[],[],0,0),[],[],[])
 else bif decide (d20.1>d20.2) then
  some ((e.1,(([]++e.2.1).set (Int.toNat X) d11).set (Int.toNat Y) d11,e.2.2.1,e.2.2.2.1,e.2.2.2.2.1,e.2.2.2.2.2),(false,[],[],[],0,0),[],[],[])
 else bif decide (((List.length (α:=I) [])+List.length e.2.1+1)*16≤lim) then
  bif decide (0≤X) then
  optC ([]++e.2.1)[Int.toNat X]? (none) fun d21=>
  optC ([]++e.2.1)[Int.toNat X]? (none) fun d22=>
  bif decide (0≤Y) then
  optC (([]++e.2.1).set (Int.toNat X) d20)[Int.toNat Y]? (none) fun d23=>
  optC (([]++e.2.1).set (Int.toNat X) d20)[Int.toNat Y]? (none) fun d24=>
  some ((e.1,(([]++e.2.1).set (Int.toNat X) d11).set (Int.toNat Y) d11,e.2.2.1,e.2.2.2.1,e.2.2.2.2.1,e.2.2.2.2.2),(e.1,(([]++e.2.1).set (Int.toNat X) d20).set (Int.toNat Y) d20,e.2.2.1,e.2.2.2.1,e.2.2.2.2.1,e.2.2.2.2.2),[],[],[])
 else none
 else none
 else none
 else bif decide (d19.1.1>d19.1.2) then
  some ((e.1,(([]++e.2.1).set (Int.toNat X) d11).set (Int.toNat Y) d11,e.2.2.1,e.2.2.2.1,e.2.2.2.2.1,e.2.2.2.2.2),(false,[],[],[],0,0),[],[],[])
 else bif decide (d19.2.1.1>d19.2.1.2) then
  some ((e.1,(([]++e.2.1).set (Int.toNat X) d11).set (Int.toNat Y) d11,e.2.2.1,e.2.2.2.1,e.2.2.2.2.1,e.2.2.2.2.2),(false,[],[],[],0,0),[],[],[])
 else bif decide (((List.length (α:=I) [])+List.length e.2.1+1)*16≤lim) then
  bif decide (0≤X) then
  optC ([]++e.2.1)[Int.toNat X]? (none) fun d20=>
  optC ([]++e.2.1)[Int.toNat X]? (none) fun d21=>
  bif decide (0≤Y) then
  optC (([]++e.2.1).set (Int.toNat X) d19.1)[Int.toNat Y]? (none) fun d22=>
  optC (([]++e.2.1).set (Int.toNat X) d19.1)[Int.toNat Y]? (none) fun d23=>
  some ((e.1,(([]++e.2.1).set (Int.toNat X) d11).set (Int.toNat Y) d11,e.2.2.1,e.2.2.2.1,e.2.2.2.2.1,e.2.2.2.2.2),(e.1,(([]++e.2.1).set (Int.toNat X) d19.1).set (Int.toNat Y) d19.2.1,e.2.2.1,e.2.2.2.1,e.2.2.2.2.1,e.2.2.2.2.2),[],[],[])
 else none
 else none
 else none
 else none
 else none
 else none
 else none
 else none
 else bif decide (d10.1.1>d10.1.2) then
  optC (Kb (op,())) (none) fun d11=>
  bif decide (0≤X) then
  optC e.2.1[Int.toNat X]? (none) fun d12=>
  bif decide (0≤Y) then
  optC e.2.1[Int.toNat Y]? (none) fun d13=>
  optC (ZP (d11,d12,d13,())) (none) fun d14=>
  bif X==Y then
  optC (Zz (d14.1,d14.2.1,())) (none) fun d15=>
  bif decide (d15.1>d15.2) then
  some ((false,[],[],[],0,0),(false,[],[],[],0,0),[],[],[])
 else bif decide (d15.1>d15.2) then
  some ((false,[],[],[],0,0),(false,[],[],[],0,0),[],[],[])
 else bif decide (((List.length (α:=I) [])+List.length e.2.1+1)*16≤lim) then
  bif decide (0≤X) then
  optC ([]++e.2.1)[Int.toNat X]? (none) fun d16=>
  optC ([]++e.2.1)[Int.toNat X]? (none) fun d17=>
  bif decide (0≤Y) then
  optC (([]++e.2.1).set (Int.toNat X) d15)[Int.toNat Y]? (none) fun d18=>
  optC (([]++e.2.1).set (Int.toNat X) d15)[Int.toNat Y]? (none) fun d19=>
  some ((false,[],[],[],0,0),(e.1,(([]++e.2.1).set (Int.toNat X) d15).set (Int.toNat Y) d15,e.2.2.1,e.2.2.2.1,e.2.2.2.2.1,e.2.2.2.2.2),[],[],[])
 else none
 else none
 else none
 else bif decide (d14.1.1>d14.1.2) then
  some ((false,[],[],[],0,0),(false,[],[],[],0,0),[],[],[])
 else bif decide (d14.2.1.1>d14.2.1.2) then
  some ((false,[],[],[],0,0),(false,[],[],[],0,0),[],[],[])
 else bif decide (((List.length (α:=I) [])+List.length e.2.1+1)*16≤lim) then
  bif decide (0≤X) then
  optC ([]++e.2.1)[Int.toNat X]? (none) fun d15=>
  optC ([]++e.2.1)[Int.toNat X]? (none) fun d16=>
  bif decide (0≤Y) then
  optC (([]++e.2.1).set (Int.toNat X) d14.1)[Int.toNat Y]? (none) fun d17=>
  optC (([]++e.2.1).set (Int.toNat X) d14.1)[Int.toNat Y]? (none) fun d18=>
  some ((false,[],[],[],0,0),(e.1,(([]++e.2.1).set (Int.toNat X) d14.1).set (Int.toNat Y) d14.2.1,e.2.2.1,e.2.2.2.1,e.2.2.2.2.1,e.2.2.2.2.2),[],[],[])
 else none
 else none
 else none
 else none
 else none
 else bif decide (d10.2.1.1>d10.2.1.2) then
  optC (Kb (op,())) (none) fun d11=>
  bif decide (0≤X) then
  optC e.2.1[Int.toNat X]? (none) fun d12=>
  bif decide (0≤Y) then
  optC e.2.1[Int.toNat Y]? (none) fun d13=>
  optC (ZP (d11,d12,d13,())) (none) fun d14=>
  bif X==Y then
  optC (Zz (d14.1,d14.2.1,())) (none) fun d15=>
  bif decide (d15.1>d15.2) then
  some ((false,[],[],[],0,0),(false,[],[],[],0,0),[],[],[])
 else bif decide (d15.1>d15.2) then
  some ((false,[],[],[],0,0),(false,[],[],[],0,0),[],[],[])
 else bif decide (((List.length (α:=I) [])+List.length e.2.1+1)*16≤lim) then
  bif decide (0≤X) then
  optC ([]++e.2.1)[Int.toNat X]? (none) fun d16=>
  optC ([]++e.2.1)[Int.toNat X]? (none) fun d17=>
  bif decide (0≤Y) then
  optC (([]++e.2.1).set (Int.toNat X) d15)[Int.toNat Y]? (none) fun d18=>
  optC (([]++e.2.1).set (Int.toNat X) d15)[Int.toNat Y]? (none) fun d19=>
  some ((false,[],[],[],0,0),(e.1,(([]++e.2.1).set (Int.toNat X) d15).set (Int.toNat Y) d15,e.2.2.1,e.2.2.2.1,e.2.2.2.2.1,e.2.2.2.2.2),[],[],[])
 else none
 else none
 else none
 else bif decide (d14.1.1>d14.1.2) then
  some ((false,[],[],[],0,0),(false,[],[],[],0,0),[],[],[])
 else bif decide (d14.2.1.1>d14.2.1.2) then
  some ((false,[],[],[],0,0),(false,[],[],[],0,0),[],[],[])
 else bif decide (((List.length (α:=I) [])+List.length e.2.1+1)*16≤lim) then
  bif decide (0≤X) then
  optC ([]++e.2.1)[Int.toNat X]? (none) fun d15=>
  optC ([]++e.2.1)[Int.toNat X]? (none) fun d16=>
  bif decide (0≤Y) then
  optC (([]++e.2.1).set (Int.toNat X) d14.1)[Int.toNat Y]? (none) fun d17=>
  optC (([]++e.2.1).set (Int.toNat X) d14.1)[Int.toNat Y]? (none) fun d18=>
  some ((false,[],[],[],0,0),(e.1,(([]++e.2.1).set (Int.toNat X) d14.1).set (Int.toNat Y) d14.2.1,e.2.2.1,e.2.2.2.1,e.2.2.2.2.1,e.2.2.2.2.2),[],[],[])
 else none
 else none
 else none
 else none
 else none
 else bif decide (((List.length (α:=I) [])+List.length e.2.1+1)*16≤lim) then
  bif decide (0≤X) then
  optC ([]++e.2.1)[Int.toNat X]? (none) fun d11=>
  optC ([]++e.2.1)[Int.toNat X]? (none) fun d12=>
  bif decide (0≤Y) then
  optC (([]++e.2.1).set (Int.toNat X) d10.1)[Int.toNat Y]? (none) fun d13=>
  optC (([]++e.2.1).set (Int.toNat X) d10.1)[Int.toNat Y]? (none) fun d14=>
  optC (Kb (op,())) (none) fun d15=>
  bif decide (0≤X) then
  optC e.2.1[Int.toNat X]? (none) fun d16=>
  bif decide (0≤Y) then
  optC e.2.1[Int.toNat Y]? (none) fun d17=>
  optC (ZP (d15,d16,d17,())) (none) fun d18=>
  bif X==Y then
  optC (Zz (d18.1,d18.2.1,())) (none) fun d19=>
  bif decide (d19.1>d19.2) then
  some ((e.1,(([]++e.2.1).set (Int.toNat X) d10.1).set (Int.toNat Y) d10.2.1,e.2.2.1,e.2.2.2.1,e.2.2.2.2.1,e.2.2.2.2.2),(false,[],[],[],0,0),[],[],[])
 else bif decide (d19.1>d19.2) then
  some ((e.1,(([]++e.2.1).set (Int.toNat X) d10.1).set (Int.toNat Y) d10.2.1,e.2.2.1,e.2.2.2.1,e.2.2.2.2.1,e.2.2.2.2.2),(false,[],[],[],0,0),[],[],[])
 else bif decide (((List.length (α:=I) [])+List.length e.2.1+1)*16≤lim) then
  bif decide (0≤X) then
  optC ([]++e.2.1)[Int.toNat X]? (none) fun d20=>
  optC ([]++e.2.1)[Int.toNat X]? (none) fun d21=>
  bif decide (0≤Y) then
  optC (([]++e.2.1).set (Int.toNat X) d19)[Int.toNat Y]? (none) fun d22=>
  optC (([]++e.2.1).set (Int.toNat X) d19)[Int.toNat Y]? (none) fun d23=>
  some ((e.1,(([]++e.2.1).set (Int.toNat X) d10.1).set (Int.toNat Y) d10.2.1,e.2.2.1,e.2.2.2.1,e.2.2.2.2.1,e.2.2.2.2.2),(e.1,(([]++e.2.1).set (Int.toNat X) d19).set (Int.toNat Y) d19,e.2.2.1,e.2.2.2.1,e.2.2.2.2.1,e.2.2.2.2.2),[],[],[])
 else none
 else none
 else none
 else bif decide (d18.1.1>d18.1.2) then
  some ((e.1,(([]++e.2.1).set (Int.toNat X) d10.1).set (Int.toNat Y) d10.2.1,e.2.2.1,e.2.2.2.1,e.2.2.2.2.1,e.2.2.2.2.2),(false,[],[],[],0,0),[],[],[])
 else bif decide (d18.2.1.1>d18.2.1.2) then
  some ((e.1,(([]++e.2.1).set (Int.toNat X) d10.1).set (Int.toNat Y) d10.2.1,e.2.2.1,e.2.2.2.1,e.2.2.2.2.1,e.2.2.2.2.2),(false,[],[],[],0,0),[],[],[])
 else bif decide (((List.length (α:=I) [])+List.length e.2.1+1)*16≤lim) then
  bif decide (0≤X) then
  optC ([]++e.2.1)[Int.toNat X]? (none) fun d19=>
  optC ([]++e.2.1)[Int.toNat X]? (none) fun d20=>
  bif decide (0≤Y) then
  optC (([]++e.2.1).set (Int.toNat X) d18.1)[Int.toNat Y]? (none) fun d21=>
  optC (([]++e.2.1).set (Int.toNat X) d18.1)[Int.toNat Y]? (none) fun d22=>
  some ((e.1,(([]++e.2.1).set (Int.toNat X) d10.1).set (Int.toNat Y) d10.2.1,e.2.2.1,e.2.2.2.1,e.2.2.2.2.1,e.2.2.2.2.2),(e.1,(([]++e.2.1).set (Int.toNat X) d18.1).set (Int.toNat Y) d18.2.1,e.2.2.1,e.2.2.2.1,e.2.2.2.2.1,e.2.2.2.2.2),[],[],[])
 else none
 else none
 else none
 else none
 else none
 else none
 else none
 else none
 else none
 else none:=by kernel_rfl
theorem Z2n (u:U) (t n:Int) (e:E) (l:List En) (c:C) (T X Y G N op nx el:Int):bF u t n e l c (12,T,X,Y,G,N,op,nx,el) =
 some ((e.1,e.2.1,e.2.2.1,e.2.2.2.1,e.2.2.2.2.1,e.2.2.2.2.2),(false,[],[],[],0,0),[],[],[]):=by kernel_rfl
theorem Z2o (u:U) (t n:Int) (e:E) (l:List En) (c:C) (T X Y G N op nx el:Int):bF u t n e l c (13,T,X,Y,G,N,op,nx,el) =
 some ((false,[],[],[],0,0),(false,[],[],[],0,0),[10],[],[]):=by kernel_rfl
theorem Z2p (u:U) (t n:Int) (e:E) (l:List En) (c:C) (T X Y G N op nx el:Int):bF u t n e l c (14,T,X,Y,G,N,op,nx,el) =
 some ((false,[],[],[],0,0),(false,[],[],[],0,0),[],[],[]):=by kernel_rfl
theorem Z4a (u:U) (t n:Int) (e:E) (l:List En) (c:C) (a:A) (h0:0≤t) (hc:u.2.2.2[t.toNat]? = some c) (h1:0≤n) (ha:c.2[n.toNat]? = some a) (he:e.1=true):Zkw u t n e l=bR u t n e l c a:=by
 have e0:decide (0≤t)=true:=decide_eq_true h0
 have e1:decide (0≤n)=true:=decide_eq_true h1
 have e2:(!e.1)=false:=by rw [he];rfl
 unfold Zkw
 rw [e0,hc,e1,e2,cond_true,cond_false,Zb,cond_true,ha,Zb]
theorem R_1 (u:U) (t n:Int) (e:E) (l:List En) (c:C) (T X Y G N op nx el:Int):bR u t n e l c (1,T,X,Y,G,N,op,nx,el) =
 optC (Zq (e,T,(N,N),())) (none) fun d8=>
  some ((d8.1,d8.2.1,d8.2.2.1,d8.2.2.2.1,d8.2.2.2.2.1,d8.2.2.2.2.2),(false,[],[],[],0,0),[],[],[]):=by kernel_rfl
theorem R_2 (u:U) (t n:Int) (e:E) (l:List En) (c:C) (T X Y G N op nx el:Int):bR u t n e l c (2,T,X,Y,G,N,op,nx,el) =
 bif decide (0≤X) then
  optC e.2.1[Int.toNat X]? (none) fun d8=>
  optC (Zq (e,T,d8,())) (none) fun d9=>
  some ((d9.1,d9.2.1,d9.2.2.1,d9.2.2.2.1,d9.2.2.2.2.1,d9.2.2.2.2.2),(false,[],[],[],0,0),[],[],[])
 else none:=by kernel_rfl
theorem R_3 (u:U) (t n:Int) (e:E) (l:List En) (c:C) (T X Y G N op nx el:Int):bR u t n e l c (3,T,X,Y,G,N,op,nx,el) =
 optC (Zq (e,T,(-2147483648,2147483647),())) (none) fun d8=>
  some ((d8.1,d8.2.1,d8.2.2.1,d8.2.2.2.1,d8.2.2.2.2.1,d8.2.2.2.2.2),(false,[],[],[],0,0),[],[],[]):=by kernel_rfl
theorem R_4 (u:U) (t n:Int) (e:E) (l:List En) (c:C) (T X Y G N op nx el:Int):bR u t n e l c (4,T,X,Y,G,N,op,nx,el) =
 optC (Zx2 ((4,T,X,Y,G,N,op,nx,el),e,())) (none) fun d8=>
  bif decide (0<(↑(List.length d8.2.2.2.2):Int)) then
  optC d8.2.2.2.2[Int.toNat 0]? (none) fun d9=>
  none
 else some ((d8.1.1,d8.1.2.1,d8.1.2.2.1,d8.1.2.2.2.1,d8.1.2.2.2.2.1,d8.1.2.2.2.2.2),(d8.2.1.1,d8.2.1.2.1,d8.2.1.2.2.1,d8.2.1.2.2.2.1,d8.2.1.2.2.2.2.1,d8.2.1.2.2.2.2.2),d8.2.2.1,d8.2.2.2.1,d8.2.2.2.2):=by kernel_rfl
theorem R_5 (u:U) (t n:Int) (e:E) (l:List En) (c:C) (T X Y G N op nx el:Int):bR u t n e l c (5,T,X,Y,G,N,op,nx,el) =
 optC (Qu (t,e,l,false,G,())) (none) fun d8=>
  optC (Zq (e,T,d8,())) (none) fun d9=>
  some ((d9.1,d9.2.1,d9.2.2.1,d9.2.2.2.1,d9.2.2.2.2.1,d9.2.2.2.2.2),(false,[],[],[],0,0),[],[],[(t,n,false,G,false,e.2.2.2.2.1)]):=by kernel_rfl
theorem R_6 (u:U) (t n:Int) (e:E) (l:List En) (c:C) (T X Y G N op nx el:Int):bR u t n e l c (6,T,X,Y,G,N,op,nx,el) =
 bif decide (((List.length (α:=I) [])+List.length e.2.2.1+1)*16≤lim) then
  bif decide (0≤X) then
  optC e.2.1[Int.toNat X]? (none) fun d8=>
  bif decide (0≤G) then
  optC ([]++e.2.2.1)[Int.toNat G]? (none) fun d9=>
  optC ([]++e.2.2.1)[Int.toNat G]? (none) fun d10=>
  bif decide (0≤X) then
  optC e.2.1[Int.toNat X]? (none) fun d11=>
  some ((e.1,e.2.1,([]++e.2.2.1).set (Int.toNat G) d8,e.2.2.2.1,e.2.2.2.2.1,e.2.2.2.2.2),(false,[],[],[],0,0),[],[(t,false,G,e.2.2.2.2.1,d11.1,d11.2)],[(t,n,false,G,true,e.2.2.2.2.1)])
 else none
 else none
 else none
 else none:=by kernel_rfl
theorem R_7 (u:U) (t n:Int) (e:E) (l:List En) (c:C) (T X Y G N op nx el:Int):bR u t n e l c (7,T,X,Y,G,N,op,nx,el) =
 bif decide (0≤G) then
  optC u.2.1[Int.toNat G]? (none) fun d8=>
  bif decide (0≤X) then
  optC e.2.1[Int.toNat X]? (none) fun d9=>
  optC (Hq (d9,(0,IntKind.i64.wrap (d8 - 1)),())) (none) fun d10=>
  bif !d10 then
  optC (ZU (d9,(0,IntKind.i64.wrap (d8 - 1)),())) (none) fun d11=>
  bif decide (d11.1>d11.2) then
  some ((false,[],[],[],0,0),(false,[],[],[],0,0),[9],[],[(t,n,true,G,7==8,e.2.2.2.2.1)])
 else optC (Zq (e,X,d11,())) (none) fun d12=>
  optC (Qu (t,d12,l,true,G,())) (none) fun d13=>
  optC (Zq (d12,T,d13,())) (none) fun d14=>
  some ((d14.1,d14.2.1,d14.2.2.1,d14.2.2.2.1,d14.2.2.2.2.1,d14.2.2.2.2.2),(false,[],[],[],0,0),[9],[],[(t,n,true,G,7==8,e.2.2.2.2.1)])
 else optC (ZU (d9,(0,IntKind.i64.wrap (d8 - 1)),())) (none) fun d11=>
  bif decide (d11.1>d11.2) then
  some ((false,[],[],[],0,0),(false,[],[],[],0,0),[],[],[(t,n,true,G,7==8,e.2.2.2.2.1)])
 else optC (Zq (e,X,d11,())) (none) fun d12=>
  optC (Qu (t,d12,l,true,G,())) (none) fun d13=>
  optC (Zq (d12,T,d13,())) (none) fun d14=>
  some ((d14.1,d14.2.1,d14.2.2.1,d14.2.2.2.1,d14.2.2.2.2.1,d14.2.2.2.2.2),(false,[],[],[],0,0),[],[],[(t,n,true,G,7==8,e.2.2.2.2.1)])
 else none
 else none:=by kernel_rfl
theorem R_8 (u:U) (t n:Int) (e:E) (l:List En) (c:C) (T X Y G N op nx el:Int):bR u t n e l c (8,T,X,Y,G,N,op,nx,el) =
 bif decide (0≤G) then
  optC u.2.1[Int.toNat G]? (none) fun d8=>
  bif decide (0≤X) then
  optC e.2.1[Int.toNat X]? (none) fun d9=>
  optC (Hq (d9,(0,IntKind.i64.wrap (d8 - 1)),())) (none) fun d10=>
  bif !d10 then
  optC (ZU (d9,(0,IntKind.i64.wrap (d8 - 1)),())) (none) fun d11=>
  bif decide (0≤Y) then
  optC e.2.1[Int.toNat Y]? (none) fun d12=>
  bif decide (d11.1>d11.2) then
  some ((false,[],[],[],0,0),(false,[],[],[],0,0),[9],[(t,true,G,e.2.2.2.2.1,d12.1,d12.2)],[(t,n,true,G,8==8,e.2.2.2.2.1)])
 else optC (Zq (e,X,d11,())) (none) fun d13=>
  bif decide (((List.length (α:=I) [])+List.length d13.2.2.2.1+1)*16≤lim) then
  bif decide (0≤G) then
  optC ([]++d13.2.2.2.1)[Int.toNat G]? (none) fun d14=>
  optC ([]++d13.2.2.2.1)[Int.toNat G]? (none) fun d15=>
  bif decide (0≤Y) then
  optC d13.2.1[Int.toNat Y]? (none) fun d16=>
  optC (ZD (d15,d16,())) (none) fun d17=>
  bif decide (0≤G) then
  optC ([]++d13.2.2.2.1)[Int.toNat G]? (none) fun d18=>
  optC ([]++d13.2.2.2.1)[Int.toNat G]? (none) fun d19=>
  some ((d13.1,d13.2.1,d13.2.2.1,([]++d13.2.2.2.1).set (Int.toNat G) d17,d13.2.2.2.2.1,d13.2.2.2.2.2),(false,[],[],[],0,0),[9],[(t,true,G,e.2.2.2.2.1,d12.1,d12.2)],[(t,n,true,G,8==8,e.2.2.2.2.1)])
 else none
 else none
 else none
 else none
 else none
 else optC (ZU (d9,(0,IntKind.i64.wrap (d8 - 1)),())) (none) fun d11=>
  bif decide (0≤Y) then
  optC e.2.1[Int.toNat Y]? (none) fun d12=>
  bif decide (d11.1>d11.2) then
  some ((false,[],[],[],0,0),(false,[],[],[],0,0),[],[(t,true,G,e.2.2.2.2.1,d12.1,d12.2)],[(t,n,true,G,8==8,e.2.2.2.2.1)])
 else optC (Zq (e,X,d11,())) (none) fun d13=>
  bif decide (((List.length (α:=I) [])+List.length d13.2.2.2.1+1)*16≤lim) then
  bif decide (0≤G) then
  optC ([]++d13.2.2.2.1)[Int.toNat G]? (none) fun d14=>
  optC ([]++d13.2.2.2.1)[Int.toNat G]? (none) fun d15=>
  bif decide (0≤Y) then
  optC d13.2.1[Int.toNat Y]? (none) fun d16=>
  optC (ZD (d15,d16,())) (none) fun d17=>
  bif decide (0≤G) then
  optC ([]++d13.2.2.2.1)[Int.toNat G]? (none) fun d18=>
  optC ([]++d13.2.2.2.1)[Int.toNat G]? (none) fun d19=>
  some ((d13.1,d13.2.1,d13.2.2.1,([]++d13.2.2.2.1).set (Int.toNat G) d17,d13.2.2.2.2.1,d13.2.2.2.2.2),(false,[],[],[],0,0),[],[(t,true,G,e.2.2.2.2.1,d12.1,d12.2)],[(t,n,true,G,8==8,e.2.2.2.2.1)])
 else none
 else none
 else none
 else none
 else none
 else none
 else none:=by kernel_rfl
theorem R_9 (u:U) (t n:Int) (e:E) (l:List En) (c:C) (T X Y G N op nx el:Int):bR u t n e l c (9,T,X,Y,G,N,op,nx,el) =
 optC (ZrJ (t,(9,T,X,Y,G,N,op,nx,el),e,l,())) (none) fun d8=>
  bif decide (0<(↑(List.length d8.2.2.2.2):Int)) then
  optC d8.2.2.2.2[Int.toNat 0]? (none) fun d9=>
  none
 else some ((d8.1.1,d8.1.2.1,d8.1.2.2.1,d8.1.2.2.2.1,d8.1.2.2.2.2.1,d8.1.2.2.2.2.2),(d8.2.1.1,d8.2.1.2.1,d8.2.1.2.2.1,d8.2.1.2.2.2.1,d8.2.1.2.2.2.2.1,d8.2.1.2.2.2.2.2),d8.2.2.1,d8.2.2.2.1,d8.2.2.2.2):=by kernel_rfl
theorem Z4E (u:U) (t n:Int) (e:E) (l:List En) (c:C) (T X Y G N op nx el:Int):bR u t n e l c (10,T,X,Y,G,N,op,nx,el) =
 optC (Zow ((10,T,X,Y,G,N,op,nx,el),e,())) (none) fun d8=>
  bif decide (0<(↑(List.length d8.2.2.2.2):Int)) then
  optC d8.2.2.2.2[Int.toNat 0]? (none) fun d9=>
  none
 else some ((d8.1.1,d8.1.2.1,d8.1.2.2.1,d8.1.2.2.2.1,d8.1.2.2.2.2.1,d8.1.2.2.2.2.2),(d8.2.1.1,d8.2.1.2.1,d8.2.1.2.2.1,d8.2.1.2.2.2.1,d8.2.1.2.2.2.2.1,d8.2.1.2.2.2.2.2),d8.2.2.1,d8.2.2.2.1,d8.2.2.2.2):=by kernel_rfl
theorem Z2q (u:U) (t n:Int) (e:E) (l:List En) (c:C) (T X Y G N op nx el:Int):bR u t n e l c (11,T,X,Y,G,N,op,nx,el) =
 optC (Zfk ((11,T,X,Y,G,N,op,nx,el),e,op,())) (none) fun d8=>
  optC (ZrK (op,())) (none) fun d9=>
  optC (Zfk ((11,T,X,Y,G,N,op,nx,el),e,d9,())) (none) fun d10=>
  some ((d8.1,d8.2.1,d8.2.2.1,d8.2.2.2.1,d8.2.2.2.2.1,d8.2.2.2.2.2),(d10.1,d10.2.1,d10.2.2.1,d10.2.2.2.1,d10.2.2.2.2.1,d10.2.2.2.2.2),[],[],[]):=by kernel_rfl
theorem Z4F (u:U) (t n:Int) (e:E) (l:List En) (c:C) (T X Y G N op nx el:Int):bR u t n e l c (12,T,X,Y,G,N,op,nx,el) =
 some ((e.1,e.2.1,e.2.2.1,e.2.2.2.1,e.2.2.2.2.1,e.2.2.2.2.2),(false,[],[],[],0,0),[],[],[]):=by kernel_rfl
theorem Z4G (u:U) (t n:Int) (e:E) (l:List En) (c:C) (T X Y G N op nx el:Int):bR u t n e l c (13,T,X,Y,G,N,op,nx,el) =
 some ((false,[],[],[],0,0),(false,[],[],[],0,0),[10],[],[]):=by kernel_rfl
theorem Z4H (u:U) (t n:Int) (e:E) (l:List En) (c:C) (T X Y G N op nx el:Int):bR u t n e l c (14,T,X,Y,G,N,op,nx,el) =
 some ((false,[],[],[],0,0),(false,[],[],[],0,0),[],[],[]):=by kernel_rfl
theorem Zkm (x y c d:I):(bif empB x then some ((1,0),(1,0),()) else bif empB y then some ((1,0),(1,0),()) else bif empB c then some ((1,0),(1,0),()) else bif empB d then some ((1,0),(1,0),()) else some (c,d,()):Option (I×I×Unit)) =
  some ((both x y c d).1,(both x y c d).2,()):=by
 unfold both
 cases empB x<;>cases empB y<;>cases empB c<;>cases empB d<;>rfl
theorem Zl6 (x y c d:I):(bif empB x then some ((1,0),(1,0),()) else bif empB y then some ((1,0),(1,0),()) else bif empB c then some ((1,0),(1,0),()) else bif empB d then some ((1,0),(1,0),()) else some (c,d,()):Option (I×I×Unit)) =
  some ((rboth x y c d).1,(rboth x y c d).2,()):=Zkm x y c d
theorem ZHS (x y:I) (hx:isB x=true):Zqh x y=some (wout x y):=by
 obtain ⟨x1,x2⟩:=V7 hx
 have w1:IntKind.i64.wrap (x.1+1)=x.1+1:=wr (by omega)
 have w2:IntKind.i64.wrap (x.2 - 1)=x.2 - 1:=wr (by omega)
 unfold Zqh wout
 simp only [w1,w2]
 by_cases h1:y.1=y.2
 ·rw [show (y.1 !=y.2)=false by simp [bne,h1],if_pos h1]
  by_cases h2:x.1=y.1
  ·rw [show (x.1==y.1)=true by simp [h2],if_pos h2];rfl
  ·rw [show (x.1==y.1)=false by simp [h2],if_neg h2]
   by_cases h3:x.2=y.1
   ·rw [show (x.2==y.1)=true by simp [h3],if_pos h3];rfl
   ·rw [show (x.2==y.1)=false by simp [h3],if_neg h3];rfl
 ·rw [show (y.1 !=y.2)=true by simp [bne,h1],if_neg h1];rfl
theorem ZKw (x y:I) (hx:isB x=true):ZsL x y=some (oth x y):=by
 obtain ⟨x1,x2⟩:=V7 hx
 have w1:IntKind.i64.wrap (x.1+1)=x.1+1:=wr (by omega)
 have w2:IntKind.i64.wrap (x.2 - 1)=x.2 - 1:=wr (by omega)
 unfold ZsL oth Z1
 simp only [w1,w2,Zvw,Zb]
 by_cases h1:y.1=y.2
 ·rw [show (y.1 !=y.2)=false by simp [bne,h1],if_pos h1]
  by_cases h2:y.1=x.1
  ·rw [show (y.1==x.1)=true by simp [h2],if_pos h2]
   by_cases h3:y.1=x.2
   ·rw [show (y.1==x.2)=true by simp [h3],if_pos h3];rfl
   ·rw [show (y.1==x.2)=false by simp [h3],if_neg h3];rfl
  ·rw [show (y.1==x.1)=false by simp [h2],if_neg h2]
   by_cases h3:y.1=x.2
   ·rw [show (y.1==x.2)=true by simp [h3],if_pos h3];rfl
   ·rw [show (y.1==x.2)=false by simp [h3],if_neg h3];rfl
 ·rw [show (y.1 !=y.2)=true by simp [bne,h1],if_neg h1];rfl
theorem Zs0 (r:Int) (x y:I) (hx:isB x=true) (hy:isB y=true):ZsF r x y=some ((refI r x y).1,(refI r x y).2,()):=by
 obtain ⟨x1,x2⟩:=V7 hx
 obtain ⟨y1,y2⟩:=V7 hy
 have w1:IntKind.i64.wrap (x.1+1)=x.1+1:=wr (by omega)
 have w2:IntKind.i64.wrap (x.2 - 1)=x.2 - 1:=wr (by omega)
 have w3:IntKind.i64.wrap (y.1+1)=y.1+1:=wr (by omega)
 have w4:IntKind.i64.wrap (y.2 - 1)=y.2 - 1:=wr (by omega)
 unfold ZsF refI
 simp only [w1,w2,w3,w4,Zft,Zfu,Zz,ZbS,Zp8,ZHS x y hx,ZHS y x hy,Zb]
 by_cases o1:r=1
 ·subst o1;exact Zkm x y (x.1,mn x.2 (y.2 - 1)) (mx y.1 (x.1+1),y.2)
 by_cases o2:r=2
 ·subst o2;exact Zkm x y (x.1,mn x.2 y.2) (mx y.1 x.1,y.2)
 by_cases o5:r=5
 ·subst o5;exact Zkm x y (mx x.1 y.1,x.2) (y.1,mn y.2 x.2)
 by_cases o6:r=6
 ·subst o6;exact Zkm x y (mx x.1 (y.1+1),x.2) (y.1,mn y.2 (x.2 - 1))
 by_cases o3:r=3
 ·subst o3;exact Zkm x y (iMeet x y) (iMeet x y)
 by_cases o4:r=4
 ·subst o4;exact Zkm x y (wout x y) (wout y x)
 simp only [o1,o2,o3,o4,o5,o6,if_false,beq_eq_false_iff_ne.2 o1,beq_eq_false_iff_ne.2 o2,beq_eq_false_iff_ne.2 o3,beq_eq_false_iff_ne.2 o4,beq_eq_false_iff_ne.2 o5,beq_eq_false_iff_ne.2 o6,cond_false]
 rfl
theorem ZHU (r:Int) (x y:I) (hx:isB x=true) (hy:isB y=true):Zqn r x y=some ((refI r x y).1,(refI r x y).2,()):=by
 rw [Z25]
 obtain ⟨x1,x2⟩:=V7 hx
 obtain ⟨y1,y2⟩:=V7 hy
 have w1:IntKind.i64.wrap (x.1+1)=x.1+1:=wr (by omega)
 have w2:IntKind.i64.wrap (x.2 - 1)=x.2 - 1:=wr (by omega)
 have w3:IntKind.i64.wrap (y.1+1)=y.1+1:=wr (by omega)
 have w4:IntKind.i64.wrap (y.2 - 1)=y.2 - 1:=wr (by omega)
 unfold Zqn rrefI
 simp only [w1,w2,w3,w4,Zft,Zfu,ZU,Zfg,Z1,Zvw,ZrL,ZKw x y hx,ZKw y x hy,Zb]
 by_cases o1:r=1
 ·subst o1;exact Zl6 x y (iSpan x.1 (mn x.2 (y.2 - 1))) (iSpan (mx y.1 (x.1+1)) y.2)
 by_cases o2:r=2
 ·subst o2;exact Zl6 x y (iSpan x.1 (mn x.2 y.2)) (iSpan (mx y.1 x.1) y.2)
 by_cases o6:r=6
 ·subst o6;exact Zl6 x y (iSpan (mx x.1 (y.1+1)) x.2) (iSpan y.1 (mn y.2 (x.2 - 1)))
 by_cases o5:r=5
 ·subst o5;exact Zl6 x y (iSpan (mx x.1 y.1) x.2) (iSpan y.1 (mn y.2 x.2))
 by_cases o3:r=3
 ·subst o3;exact Zl6 x y (mSpan x y) (mSpan x y)
 by_cases o4:r=4
 ·subst o4;exact Zl6 x y (oth x y) (oth y x)
 simp only [o1,o2,o3,o4,o5,o6,if_false,beq_eq_false_iff_ne.2 o1,beq_eq_false_iff_ne.2 o2,beq_eq_false_iff_ne.2 o3,beq_eq_false_iff_ne.2 o4,beq_eq_false_iff_ne.2 o5,beq_eq_false_iff_ne.2 o6,cond_false]
 cases decide (x.1>x.2)<;>cases decide (y.1>y.2)<;>rfl
theorem look {α β:Type} {l:List α} {i:Nat} (h:i<l.length) (b:β) (n:β):optC l[i]? n (fun _=>b)=b:=by rw [List.getElem?_eq_getElem h];rfl
theorem limc {n:Nat} (h:n≤1000):decide ((n+1)*16≤lim)=true:=decide_eq_true (by unfold lim;omega)
theorem Zs {k n:Int}:inB k n=true↔0≤k∧k<n:=by simp [inB]
theorem ZE {α:Type} (l:List α) (i:Int) (h:0≤i∧i<(l.length:Int)):∃ d,l[i.toNat]? = some d:=⟨l[i.toNat]'(by omega),List.getElem?_eq_getElem _⟩
theorem ZT4 (n:Int) (h:fitB n=true):Zuq ([n],())=some (n,n):=ZYR n h
theorem exO {p q:Option O} {o:O} (h1:p=some o) (h2:q=some o) (h3:Zbb o):∃ o,p=some o∧q=some o∧Zbb o:=⟨o,h1,h2,h3⟩
theorem Z03 (x y c d:I):both x y c d=(nn,nn)∨(empB (both x y c d).1=false∧empB (both x y c d).2=false):=by
 unfold both
 cases empB x
 ·cases empB y
  ·cases h1:empB c
   ·cases h2:empB d
    ·exact .inr ⟨h1,h2⟩
    ·exact .inl rfl
   ·exact .inl rfl
  ·exact .inl rfl
 ·exact .inl rfl
theorem Z26 (r:Int) (x y:I):refI r x y=(nn,nn)∨(empB (refI r x y).1=false∧empB (refI r x y).2=false):=by
 unfold refI
 repeat' split
 all_goals first | exact Z03 .. | exact .inl rfl
theorem ZF4 (r:Int) (x y:I):iMeet (refI r x y).1 (refI r x y).2=mSpan (refI r x y).1 (refI r x y).2:=by
 rcases Z26 r x y with h | h
 ·rw [h];decide
 ·exact Zff h.1 h.2
theorem ZOS (op:Int):∃ w,Zrc op=some w:=by
 unfold Zrc
 cases op==1<;>cases op==2<;>cases op==3<;>cases op==4<;>cases op==5<;>cases op==6<;>exact ⟨_,rfl⟩
theorem Z4K (u:U) (t n:Int) (e:E) (l:List En) (c:C) (T X Y G N op nx el:Int) (h0:0≤t) (hu:unitOK u) (hl:tabOK l) (hn:l.length≤1000) (he:envOK u t e) (hc:u.2.2.2[t.toNat]? = some c) (ha:actOK u c (1,T,X,Y,G,N,op,nx,el)):∃ o,bF u t n e l c (1,T,X,Y,G,N,op,nx,el)=some o∧bR u t n e l c (1,T,X,Y,G,N,op,nx,el)=some o∧Zbb o:=by
 obtain ⟨c',hc',hv⟩:=he.c
 obtain rfl:c'=c:=by rw [hc] at hc';exact (Option.some.inj hc').symm
 have cv:=(hu.ts c' (List.mem_of_getElem? hc')).v
 have V0:e.2.1.length≤1000:=by omega
 have G0:e.2.2.1.length≤1000:=by rw [he.g];have:=hu.g;omega
 have A0:e.2.2.2.1.length≤1000:=by rw [he.a];have:=hu.a;omega
 have hE:=hl.e
 have hm:=he.must
 have hy:=he.may
 have hn':l.length<9223372036854775807:=by omega
 have hn2:l.length<1000000000000:=by omega
 have hT:0≤T∧T<c'.1:=Zs.1 ha.h1
 have eT:decide (0≤T)=true:=decide_eq_true hT.1
 have lT:T.toNat<e.2.1.length:=by omega
 have hN:fitB N=true:=ha.n
 apply exO
 ·simp only [F_1,ZT4 N hN,List.nil_append,List.length_nil,Nat.zero_add,List.length_set,limc V0,limc G0,limc A0,cond_true,cond_false,Zb,Bool.not_true,Bool.not_false,eT,look lT]
  rfl
 ·(simp only [R_1,Zq,Zat e T (N,N) hT.1 (by omega) V0,List.nil_append,List.length_nil,Nat.zero_add,List.length_set,limc V0,limc G0,limc A0,cond_true,cond_false,Zb,Bool.not_true,Bool.not_false])<;>rfl
 ·refine ⟨⟨?_,?_,?_⟩,⟨?_,?_,?_⟩,?_,?_,?_⟩<;>simp only [List.length_set,List.length_nil,List.length_cons,gmap,List.length_mapIdx]<;>omega
theorem Z4L (u:U) (t n:Int) (e:E) (l:List En) (c:C) (T X Y G N op nx el:Int) (h0:0≤t) (hu:unitOK u) (hl:tabOK l) (hn:l.length≤1000) (he:envOK u t e) (hc:u.2.2.2[t.toNat]? = some c) (ha:actOK u c (2,T,X,Y,G,N,op,nx,el)):∃ o,bF u t n e l c (2,T,X,Y,G,N,op,nx,el)=some o∧bR u t n e l c (2,T,X,Y,G,N,op,nx,el)=some o∧Zbb o:=by
 obtain ⟨c',hc',hv⟩:=he.c
 obtain rfl:c'=c:=by rw [hc] at hc';exact (Option.some.inj hc').symm
 have cv:=(hu.ts c' (List.mem_of_getElem? hc')).v
 have V0:e.2.1.length≤1000:=by omega
 have G0:e.2.2.1.length≤1000:=by rw [he.g];have:=hu.g;omega
 have A0:e.2.2.2.1.length≤1000:=by rw [he.a];have:=hu.a;omega
 have hE:=hl.e
 have hm:=he.must
 have hy:=he.may
 have hn':l.length<9223372036854775807:=by omega
 have hn2:l.length<1000000000000:=by omega
 have hT:0≤T∧T<c'.1:=Zs.1 ha.h1
 have eT:decide (0≤T)=true:=decide_eq_true hT.1
 have lT:T.toNat<e.2.1.length:=by omega
 have hX:0≤X∧X<c'.1:=Zs.1 ha.h2
 have eX:decide (0≤X)=true:=decide_eq_true hX.1
 have lX:X.toNat<e.2.1.length:=by omega
 obtain ⟨x,gx⟩:=ZE e.2.1 X (by omega)
 have vx:=he.v x (List.mem_append_left _ (List.mem_append_left _ (List.mem_of_getElem? gx)))
 apply exO
 ·simp only [F_2,gx,List.nil_append,List.length_nil,Nat.zero_add,List.length_set,limc V0,limc G0,limc A0,cond_true,cond_false,Zb,Bool.not_true,Bool.not_false,eT,eX,look lT]
  rfl
 ·(simp only [R_2,Zq,Zat e T x hT.1 (by omega) V0,gx,eX,List.nil_append,List.length_nil,Nat.zero_add,List.length_set,limc V0,limc G0,limc A0,cond_true,cond_false,Zb,Bool.not_true,Bool.not_false])<;>rfl
 ·refine ⟨⟨?_,?_,?_⟩,⟨?_,?_,?_⟩,?_,?_,?_⟩<;>simp only [List.length_set,List.length_nil,List.length_cons,gmap,List.length_mapIdx]<;>omega
theorem Z4M (u:U) (t n:Int) (e:E) (l:List En) (c:C) (T X Y G N op nx el:Int) (h0:0≤t) (hu:unitOK u) (hl:tabOK l) (hn:l.length≤1000) (he:envOK u t e) (hc:u.2.2.2[t.toNat]? = some c) (ha:actOK u c (3,T,X,Y,G,N,op,nx,el)):∃ o,bF u t n e l c (3,T,X,Y,G,N,op,nx,el)=some o∧bR u t n e l c (3,T,X,Y,G,N,op,nx,el)=some o∧Zbb o:=by
 obtain ⟨c',hc',hv⟩:=he.c
 obtain rfl:c'=c:=by rw [hc] at hc';exact (Option.some.inj hc').symm
 have cv:=(hu.ts c' (List.mem_of_getElem? hc')).v
 have V0:e.2.1.length≤1000:=by omega
 have G0:e.2.2.1.length≤1000:=by rw [he.g];have:=hu.g;omega
 have A0:e.2.2.2.1.length≤1000:=by rw [he.a];have:=hu.a;omega
 have hE:=hl.e
 have hm:=he.must
 have hy:=he.may
 have hn':l.length<9223372036854775807:=by omega
 have hn2:l.length<1000000000000:=by omega
 have hT:0≤T∧T<c'.1:=Zs.1 ha.h1
 have eT:decide (0≤T)=true:=decide_eq_true hT.1
 have lT:T.toNat<e.2.1.length:=by omega
 apply exO
 ·simp only [F_3,List.nil_append,List.length_nil,Nat.zero_add,List.length_set,limc V0,limc G0,limc A0,cond_true,cond_false,Zb,Bool.not_true,Bool.not_false,eT,look lT]
  rfl
 ·(simp only [R_3,Zq,Zat e T (-2147483648,2147483647) hT.1 (by omega) V0,List.nil_append,List.length_nil,Nat.zero_add,List.length_set,limc V0,limc G0,limc A0,cond_true,cond_false,Zb,Bool.not_true,Bool.not_false])<;>rfl
 ·refine ⟨⟨?_,?_,?_⟩,⟨?_,?_,?_⟩,?_,?_,?_⟩<;>simp only [List.length_set,List.length_nil,List.length_cons,gmap,List.length_mapIdx]<;>omega
theorem Z4O (u:U) (t n:Int) (e:E) (l:List En) (c:C) (T X Y G N op nx el:Int) (h0:0≤t) (hu:unitOK u) (hl:tabOK l) (hn:l.length≤1000) (he:envOK u t e) (hc:u.2.2.2[t.toNat]? = some c) (ha:actOK u c (5,T,X,Y,G,N,op,nx,el)):∃ o,bF u t n e l c (5,T,X,Y,G,N,op,nx,el)=some o∧bR u t n e l c (5,T,X,Y,G,N,op,nx,el)=some o∧Zbb o:=by
 obtain ⟨c',hc',hv⟩:=he.c
 obtain rfl:c'=c:=by rw [hc] at hc';exact (Option.some.inj hc').symm
 have cv:=(hu.ts c' (List.mem_of_getElem? hc')).v
 have V0:e.2.1.length≤1000:=by omega
 have G0:e.2.2.1.length≤1000:=by rw [he.g];have:=hu.g;omega
 have A0:e.2.2.2.1.length≤1000:=by rw [he.a];have:=hu.a;omega
 have hE:=hl.e
 have hm:=he.must
 have hy:=he.may
 have hn':l.length<9223372036854775807:=by omega
 have hn2:l.length<1000000000000:=by omega
 have hT:0≤T∧T<c'.1:=Zs.1 ha.h1
 have eT:decide (0≤T)=true:=decide_eq_true hT.1
 have lT:T.toNat<e.2.1.length:=by omega
 have hG:0≤G∧G<(u.1.length:Int):=Zs.1 ha.h4
 have eG:decide (0≤G)=true:=decide_eq_true hG.1
 have lG:G.toNat<e.2.2.1.length:=by rw [he.g];omega
 obtain ⟨gd,hgd⟩:=ZE e.2.2.1 G (by rw [he.g];omega)
 have r1:=Zvt u t e l false G gd hG.1 hgd hm hE hn'
 have r2:=ZKu t e l false G gd hG.1 hgd hm hE hn'
 apply exO
 ·simp only [F_5,Qn,r1,List.nil_append,List.length_nil,Nat.zero_add,List.length_set,limc V0,limc G0,limc A0,cond_true,cond_false,Zb,Bool.not_true,Bool.not_false,eT,look lT]
  rfl
 ·(simp only [R_5,Qu,r2,Zq,Zat e T _ hT.1 (by omega) V0,List.nil_append,List.length_nil,Nat.zero_add,List.length_set,limc V0,limc G0,limc A0,cond_true,cond_false,Zb,Bool.not_true,Bool.not_false])<;>rfl
 ·refine ⟨⟨?_,?_,?_⟩,⟨?_,?_,?_⟩,?_,?_,?_⟩<;>simp only [List.length_set,List.length_nil,List.length_cons,gmap,List.length_mapIdx]<;>omega
theorem Z4P (u:U) (t n:Int) (e:E) (l:List En) (c:C) (T X Y G N op nx el:Int) (h0:0≤t) (hu:unitOK u) (hl:tabOK l) (hn:l.length≤1000) (he:envOK u t e) (hc:u.2.2.2[t.toNat]? = some c) (ha:actOK u c (6,T,X,Y,G,N,op,nx,el)):∃ o,bF u t n e l c (6,T,X,Y,G,N,op,nx,el)=some o∧bR u t n e l c (6,T,X,Y,G,N,op,nx,el)=some o∧Zbb o:=by
 obtain ⟨c',hc',hv⟩:=he.c
 obtain rfl:c'=c:=by rw [hc] at hc';exact (Option.some.inj hc').symm
 have cv:=(hu.ts c' (List.mem_of_getElem? hc')).v
 have V0:e.2.1.length≤1000:=by omega
 have G0:e.2.2.1.length≤1000:=by rw [he.g];have:=hu.g;omega
 have A0:e.2.2.2.1.length≤1000:=by rw [he.a];have:=hu.a;omega
 have hE:=hl.e
 have hm:=he.must
 have hy:=he.may
 have hn':l.length<9223372036854775807:=by omega
 have hn2:l.length<1000000000000:=by omega
 have hX:0≤X∧X<c'.1:=Zs.1 ha.h2
 have eX:decide (0≤X)=true:=decide_eq_true hX.1
 have lX:X.toNat<e.2.1.length:=by omega
 obtain ⟨x,gx⟩:=ZE e.2.1 X (by omega)
 have vx:=he.v x (List.mem_append_left _ (List.mem_append_left _ (List.mem_of_getElem? gx)))
 have hG:0≤G∧G<(u.1.length:Int):=Zs.1 ha.h4
 have eG:decide (0≤G)=true:=decide_eq_true hG.1
 have lG:G.toNat<e.2.2.1.length:=by rw [he.g];omega
 obtain ⟨gd,hgd⟩:=ZE e.2.2.1 G (by rw [he.g];omega)
 apply exO
 ·simp only [F_6,gx,List.nil_append,List.length_nil,Nat.zero_add,List.length_set,limc V0,limc G0,limc A0,cond_true,cond_false,Zb,Bool.not_true,Bool.not_false,eX,eG,look lG]
  rfl
 ·(simp only [R_6,gx,eX,eG,look lG,List.nil_append,List.length_nil,Nat.zero_add,List.length_set,limc V0,limc G0,limc A0,cond_true,cond_false,Zb,Bool.not_true,Bool.not_false])<;>rfl
 ·refine ⟨⟨?_,?_,?_⟩,⟨?_,?_,?_⟩,?_,?_,?_⟩<;>simp only [List.length_set,List.length_nil,List.length_cons,gmap,List.length_mapIdx]<;>omega
theorem Z4g (u:U) (t n:Int) (e:E) (l:List En) (c:C) (T X Y G N op nx el:Int) (h0:0≤t) (hu:unitOK u) (hl:tabOK l) (hn:l.length≤1000) (he:envOK u t e) (hc:u.2.2.2[t.toNat]? = some c) (ha:actOK u c (12,T,X,Y,G,N,op,nx,el)):∃ o,bF u t n e l c (12,T,X,Y,G,N,op,nx,el)=some o∧bR u t n e l c (12,T,X,Y,G,N,op,nx,el)=some o∧Zbb o:=by
 obtain ⟨c',hc',hv⟩:=he.c
 obtain rfl:c'=c:=by rw [hc] at hc';exact (Option.some.inj hc').symm
 have cv:=(hu.ts c' (List.mem_of_getElem? hc')).v
 have V0:e.2.1.length≤1000:=by omega
 have G0:e.2.2.1.length≤1000:=by rw [he.g];have:=hu.g;omega
 have A0:e.2.2.2.1.length≤1000:=by rw [he.a];have:=hu.a;omega
 have hE:=hl.e
 have hm:=he.must
 have hy:=he.may
 have hn':l.length<9223372036854775807:=by omega
 have hn2:l.length<1000000000000:=by omega
 apply exO
 ·simp only [Z2n]
  rfl
 ·(simp only [Z4F])<;>rfl
 ·refine ⟨⟨?_,?_,?_⟩,⟨?_,?_,?_⟩,?_,?_,?_⟩<;>simp only [List.length_set,List.length_nil,List.length_cons,gmap,List.length_mapIdx]<;>omega
theorem Z4h (u:U) (t n:Int) (e:E) (l:List En) (c:C) (T X Y G N op nx el:Int) (h0:0≤t) (hu:unitOK u) (hl:tabOK l) (hn:l.length≤1000) (he:envOK u t e) (hc:u.2.2.2[t.toNat]? = some c) (ha:actOK u c (13,T,X,Y,G,N,op,nx,el)):∃ o,bF u t n e l c (13,T,X,Y,G,N,op,nx,el)=some o∧bR u t n e l c (13,T,X,Y,G,N,op,nx,el)=some o∧Zbb o:=by
 obtain ⟨c',hc',hv⟩:=he.c
 obtain rfl:c'=c:=by rw [hc] at hc';exact (Option.some.inj hc').symm
 have cv:=(hu.ts c' (List.mem_of_getElem? hc')).v
 have V0:e.2.1.length≤1000:=by omega
 have G0:e.2.2.1.length≤1000:=by rw [he.g];have:=hu.g;omega
 have A0:e.2.2.2.1.length≤1000:=by rw [he.a];have:=hu.a;omega
 have hE:=hl.e
 have hm:=he.must
 have hy:=he.may
 have hn':l.length<9223372036854775807:=by omega
 have hn2:l.length<1000000000000:=by omega
 apply exO
 ·simp only [Z2o]
  rfl
 ·(simp only [Z4G])<;>rfl
 ·refine ⟨⟨?_,?_,?_⟩,⟨?_,?_,?_⟩,?_,?_,?_⟩<;>simp only [List.length_set,List.length_nil,List.length_cons,gmap,List.length_mapIdx]<;>omega
theorem Z4i (u:U) (t n:Int) (e:E) (l:List En) (c:C) (T X Y G N op nx el:Int) (h0:0≤t) (hu:unitOK u) (hl:tabOK l) (hn:l.length≤1000) (he:envOK u t e) (hc:u.2.2.2[t.toNat]? = some c) (ha:actOK u c (14,T,X,Y,G,N,op,nx,el)):∃ o,bF u t n e l c (14,T,X,Y,G,N,op,nx,el)=some o∧bR u t n e l c (14,T,X,Y,G,N,op,nx,el)=some o∧Zbb o:=by
 obtain ⟨c',hc',hv⟩:=he.c
 obtain rfl:c'=c:=by rw [hc] at hc';exact (Option.some.inj hc').symm
 have cv:=(hu.ts c' (List.mem_of_getElem? hc')).v
 have V0:e.2.1.length≤1000:=by omega
 have G0:e.2.2.1.length≤1000:=by rw [he.g];have:=hu.g;omega
 have A0:e.2.2.2.1.length≤1000:=by rw [he.a];have:=hu.a;omega
 have hE:=hl.e
 have hm:=he.must
 have hy:=he.may
 have hn':l.length<9223372036854775807:=by omega
 have hn2:l.length<1000000000000:=by omega
 apply exO
 ·simp only [Z2p]
  rfl
 ·(simp only [Z4H])<;>rfl
 ·refine ⟨⟨?_,?_,?_⟩,⟨?_,?_,?_⟩,?_,?_,?_⟩<;>simp only [List.length_set,List.length_nil,List.length_cons,gmap,List.length_mapIdx]<;>omega
def offE:E:=(false,[],[],[],0,0)
def setE (e:E) (T:Int) (v:I):E:=(e.1,e.2.1.set T.toNat v,e.2.2)
def sideV (e:E) (X Y r:Int) (x y:I):E:=
 bif X==Y then bif empB (mSpan (refI r x y).1 (refI r x y).2) then offE else setE (setE e X (mSpan (refI r x y).1 (refI r x y).2)) Y (mSpan (refI r x y).1 (refI r x y).2)
 else bif empB (refI r x y).1 then offE else bif empB (refI r x y).2 then offE else setE (setE e X (refI r x y).1) Y (refI r x y).2
theorem decE (z:I):decide (z.1>z.2)=empB z:=rfl
theorem ZS7 (u:U) (t n:Int) (e:E) (l:List En) (c:C) (T X Y G N op nx el:Int)  (hu:unitOK u) (hE:∀ x∈l,entOK x) (hn:l.length≤1000) (he:envOK u t e) (hc:u.2.2.2[t.toNat]? = some c) (ha:actOK u c (1,T,X,Y,G,N,op,nx,el)):bF u t n e l c (1,T,X,Y,G,N,op,nx,el)=some (setE e T (N,N),offE,[],[],[]):=by
 obtain ⟨c',hc',hv⟩:=he.c
 obtain rfl:c'=c:=by rw [hc] at hc';exact (Option.some.inj hc').symm
 have cv:=(hu.ts c' (List.mem_of_getElem? hc')).v
 have V0:e.2.1.length≤1000:=by omega
 have G0:e.2.2.1.length≤1000:=by rw [he.g];have:=hu.g;omega
 have A0:e.2.2.2.1.length≤1000:=by rw [he.a];have:=hu.a;omega
 have hm:=he.must
 have hy:=he.may
 have hn':l.length<9223372036854775807:=by omega
 have hn2:l.length<1000000000000:=by omega
 have hT:0≤T∧T<c'.1:=Zs.1 ha.h1
 have eT:decide (0≤T)=true:=decide_eq_true hT.1
 have lT:T.toNat<e.2.1.length:=by omega
 have hN:fitB N=true:=ha.n
 (simp only [F_1,ZT4 N hN,List.nil_append,List.length_nil,Nat.zero_add,List.length_set,limc V0,limc G0,limc A0,cond_true,cond_false,Zb,Bool.not_true,Bool.not_false,eT,look lT])<;>rfl
theorem ZS8 (u:U) (t n:Int) (e:E) (l:List En) (c:C) (T X Y G N op nx el:Int) {x:I} (gx:e.2.1[X.toNat]? = some x) (hu:unitOK u) (hE:∀ x∈l,entOK x) (hn:l.length≤1000) (he:envOK u t e) (hc:u.2.2.2[t.toNat]? = some c) (ha:actOK u c (2,T,X,Y,G,N,op,nx,el)):bF u t n e l c (2,T,X,Y,G,N,op,nx,el)=some (setE e T x,offE,[],[],[]):=by
 obtain ⟨c',hc',hv⟩:=he.c
 obtain rfl:c'=c:=by rw [hc] at hc';exact (Option.some.inj hc').symm
 have cv:=(hu.ts c' (List.mem_of_getElem? hc')).v
 have V0:e.2.1.length≤1000:=by omega
 have G0:e.2.2.1.length≤1000:=by rw [he.g];have:=hu.g;omega
 have A0:e.2.2.2.1.length≤1000:=by rw [he.a];have:=hu.a;omega
 have hm:=he.must
 have hy:=he.may
 have hn':l.length<9223372036854775807:=by omega
 have hn2:l.length<1000000000000:=by omega
 have hT:0≤T∧T<c'.1:=Zs.1 ha.h1
 have eT:decide (0≤T)=true:=decide_eq_true hT.1
 have lT:T.toNat<e.2.1.length:=by omega
 have hX:0≤X∧X<c'.1:=Zs.1 ha.h2
 have eX:decide (0≤X)=true:=decide_eq_true hX.1
 have lX:X.toNat<e.2.1.length:=by omega
 (simp only [F_2,gx,List.nil_append,List.length_nil,Nat.zero_add,List.length_set,limc V0,limc G0,limc A0,cond_true,cond_false,Zb,Bool.not_true,Bool.not_false,eT,eX,look lT])<;>rfl
theorem ZS9 (u:U) (t n:Int) (e:E) (l:List En) (c:C) (T X Y G N op nx el:Int)  (hu:unitOK u) (hE:∀ x∈l,entOK x) (hn:l.length≤1000) (he:envOK u t e) (hc:u.2.2.2[t.toNat]? = some c) (ha:actOK u c (3,T,X,Y,G,N,op,nx,el)):bF u t n e l c (3,T,X,Y,G,N,op,nx,el)=some (setE e T (-2147483648,2147483647),offE,[],[],[]):=by
 obtain ⟨c',hc',hv⟩:=he.c
 obtain rfl:c'=c:=by rw [hc] at hc';exact (Option.some.inj hc').symm
 have cv:=(hu.ts c' (List.mem_of_getElem? hc')).v
 have V0:e.2.1.length≤1000:=by omega
 have G0:e.2.2.1.length≤1000:=by rw [he.g];have:=hu.g;omega
 have A0:e.2.2.2.1.length≤1000:=by rw [he.a];have:=hu.a;omega
 have hm:=he.must
 have hy:=he.may
 have hn':l.length<9223372036854775807:=by omega
 have hn2:l.length<1000000000000:=by omega
 have hT:0≤T∧T<c'.1:=Zs.1 ha.h1
 have eT:decide (0≤T)=true:=decide_eq_true hT.1
 have lT:T.toNat<e.2.1.length:=by omega
 (simp only [F_3,List.nil_append,List.length_nil,Nat.zero_add,List.length_set,limc V0,limc G0,limc A0,cond_true,cond_false,Zb,Bool.not_true,Bool.not_false,eT,look lT])<;>rfl
theorem ZTa (u:U) (t n:Int) (e:E) (l:List En) (c:C) (T X Y G N op nx el:Int) {x:I} (gx:e.2.1[X.toNat]? = some x) {y:I} (gy:e.2.1[Y.toNat]? = some y) (hu:unitOK u) (hE:∀ x∈l,entOK x) (hn:l.length≤1000) (he:envOK u t e) (hc:u.2.2.2[t.toNat]? = some c) (ha:actOK u c (4,T,X,Y,G,N,op,nx,el)):bF u t n e l c (4,T,X,Y,G,N,op,nx,el)=some (bif empB (doI op x y).1 then offE else setE e T (doI op x y).1,offE,(bif (doI op x y).2.1 then [7] else [])++(bif (doI op x y).2.2 then [8] else []),[],[]):=by
 obtain ⟨c',hc',hv⟩:=he.c
 obtain rfl:c'=c:=by rw [hc] at hc';exact (Option.some.inj hc').symm
 have cv:=(hu.ts c' (List.mem_of_getElem? hc')).v
 have V0:e.2.1.length≤1000:=by omega
 have G0:e.2.2.1.length≤1000:=by rw [he.g];have:=hu.g;omega
 have A0:e.2.2.2.1.length≤1000:=by rw [he.a];have:=hu.a;omega
 have hm:=he.must
 have hy:=he.may
 have hn':l.length<9223372036854775807:=by omega
 have hn2:l.length<1000000000000:=by omega
 have hT:0≤T∧T<c'.1:=Zs.1 ha.h1
 have eT:decide (0≤T)=true:=decide_eq_true hT.1
 have lT:T.toNat<e.2.1.length:=by omega
 have hX:0≤X∧X<c'.1:=Zs.1 ha.h2
 have eX:decide (0≤X)=true:=decide_eq_true hX.1
 have lX:X.toNat<e.2.1.length:=by omega
 have hY:0≤Y∧Y<c'.1:=Zs.1 ha.h3
 have eY:decide (0≤Y)=true:=decide_eq_true hY.1
 have lY:Y.toNat<e.2.1.length:=by omega
 have vx:=he.v x (List.mem_append_left _ (List.mem_append_left _ (List.mem_of_getElem? gx)))
 have vy:=he.v y (List.mem_append_left _ (List.mem_append_left _ (List.mem_of_getElem? gy)))
 have d1:=ZUi op x y vx.1 vy.1
 generalize doI op x y=r at d1
 obtain ⟨z,o,w⟩:=r
 simp only at d1
 cases o<;>cases w<;>cases k:empB z
 all_goals (simp only [F_4,gx,gy,ZyY,d1,decE,k,List.nil_append,List.length_nil,Nat.zero_add,List.length_set,limc V0,limc G0,limc A0,cond_true,cond_false,Zb,Bool.not_true,Bool.not_false,eT,eX,eY,look lT])<;>rfl
theorem ZTb (u:U) (t n:Int) (e:E) (l:List En) (c:C) (T X Y G N op nx el:Int) {gd:I} (hgd:e.2.2.1[G.toNat]? = some gd) (hu:unitOK u) (hE:∀ x∈l,entOK x) (hn:l.length≤1000) (he:envOK u t e) (hc:u.2.2.2[t.toNat]? = some c) (ha:actOK u c (5,T,X,Y,G,N,op,nx,el)):bF u t n e l c (5,T,X,Y,G,N,op,nx,el)=some (setE e T (readV gd l t false G e.2.2.2.2.1),offE,[],[],[(t,n,false,G,false,e.2.2.2.2.1)]):=by
 obtain ⟨c',hc',hv⟩:=he.c
 obtain rfl:c'=c:=by rw [hc] at hc';exact (Option.some.inj hc').symm
 have cv:=(hu.ts c' (List.mem_of_getElem? hc')).v
 have V0:e.2.1.length≤1000:=by omega
 have G0:e.2.2.1.length≤1000:=by rw [he.g];have:=hu.g;omega
 have A0:e.2.2.2.1.length≤1000:=by rw [he.a];have:=hu.a;omega
 have hm:=he.must
 have hy:=he.may
 have hn':l.length<9223372036854775807:=by omega
 have hn2:l.length<1000000000000:=by omega
 have hT:0≤T∧T<c'.1:=Zs.1 ha.h1
 have eT:decide (0≤T)=true:=decide_eq_true hT.1
 have lT:T.toNat<e.2.1.length:=by omega
 have hG:0≤G∧G<(u.1.length:Int):=Zs.1 ha.h4
 have eG:decide (0≤G)=true:=decide_eq_true hG.1
 have lG:G.toNat<e.2.2.1.length:=by rw [he.g];omega
 have r1:=Zvt u t e l false G gd hG.1 hgd hm hE hn'
 (simp only [F_5,Qn,r1,List.nil_append,List.length_nil,Nat.zero_add,List.length_set,limc V0,limc G0,limc A0,cond_true,cond_false,Zb,Bool.not_true,Bool.not_false,eT,look lT])<;>rfl
theorem ZTc (u:U) (t n:Int) (e:E) (l:List En) (c:C) (T X Y G N op nx el:Int) {x:I} (gx:e.2.1[X.toNat]? = some x) (hu:unitOK u) (hE:∀ x∈l,entOK x) (hn:l.length≤1000) (he:envOK u t e) (hc:u.2.2.2[t.toNat]? = some c) (ha:actOK u c (6,T,X,Y,G,N,op,nx,el)):bF u t n e l c (6,T,X,Y,G,N,op,nx,el)=some ((e.1,e.2.1,e.2.2.1.set G.toNat x,e.2.2.2),offE,[],[(t,false,G,e.2.2.2.2.1,x)],[(t,n,false,G,true,e.2.2.2.2.1)]):=by
 obtain ⟨c',hc',hv⟩:=he.c
 obtain rfl:c'=c:=by rw [hc] at hc';exact (Option.some.inj hc').symm
 have cv:=(hu.ts c' (List.mem_of_getElem? hc')).v
 have V0:e.2.1.length≤1000:=by omega
 have G0:e.2.2.1.length≤1000:=by rw [he.g];have:=hu.g;omega
 have A0:e.2.2.2.1.length≤1000:=by rw [he.a];have:=hu.a;omega
 have hm:=he.must
 have hy:=he.may
 have hn':l.length<9223372036854775807:=by omega
 have hn2:l.length<1000000000000:=by omega
 have hX:0≤X∧X<c'.1:=Zs.1 ha.h2
 have eX:decide (0≤X)=true:=decide_eq_true hX.1
 have lX:X.toNat<e.2.1.length:=by omega
 have hG:0≤G∧G<(u.1.length:Int):=Zs.1 ha.h4
 have eG:decide (0≤G)=true:=decide_eq_true hG.1
 have lG:G.toNat<e.2.2.1.length:=by rw [he.g];omega
 (simp only [F_6,gx,List.nil_append,List.length_nil,Nat.zero_add,List.length_set,limc V0,limc G0,limc A0,cond_true,cond_false,Zb,Bool.not_true,Bool.not_false,eX,eG,look lG])<;>rfl
theorem ZTd (u:U) (t n:Int) (e:E) (l:List En) (c:C) (T X Y G N op nx el:Int) {x:I} (gx:e.2.1[X.toNat]? = some x) {m:Int} (gm:u.2.1[G.toNat]? = some m) {gd:I} (hgd:e.2.2.2.1[G.toNat]? = some gd) (hu:unitOK u) (hE:∀ x∈l,entOK x) (hn:l.length≤1000) (he:envOK u t e) (hc:u.2.2.2[t.toNat]? = some c) (ha:actOK u c (7,T,X,Y,G,N,op,nx,el)):bF u t n e l c (7,T,X,Y,G,N,op,nx,el)=some (bif empB (mSpan x (0,m - 1)) then offE else setE (setE e X (mSpan x (0,m - 1))) T (readV gd l t true G e.2.2.2.2.1),offE,(bif leqB x (0,m - 1) then [] else [9]),[],[(t,n,true,G,false,e.2.2.2.2.1)]):=by
 obtain ⟨c',hc',hv⟩:=he.c
 obtain rfl:c'=c:=by rw [hc] at hc';exact (Option.some.inj hc').symm
 have cv:=(hu.ts c' (List.mem_of_getElem? hc')).v
 have V0:e.2.1.length≤1000:=by omega
 have G0:e.2.2.1.length≤1000:=by rw [he.g];have:=hu.g;omega
 have A0:e.2.2.2.1.length≤1000:=by rw [he.a];have:=hu.a;omega
 have hm:=he.must
 have hy:=he.may
 have hn':l.length<9223372036854775807:=by omega
 have hn2:l.length<1000000000000:=by omega
 have hT:0≤T∧T<c'.1:=Zs.1 ha.h1
 have eT:decide (0≤T)=true:=decide_eq_true hT.1
 have lT:T.toNat<e.2.1.length:=by omega
 have hX:0≤X∧X<c'.1:=Zs.1 ha.h2
 have eX:decide (0≤X)=true:=decide_eq_true hX.1
 have lX:X.toNat<e.2.1.length:=by omega
 have vx:=he.v x (List.mem_append_left _ (List.mem_append_left _ (List.mem_of_getElem? gx)))
 have hG:0≤G∧G<(u.2.1.length:Int):=Zs.1 ha.h4
 have eG:decide (0≤G)=true:=decide_eq_true hG.1
 have lG:G.toNat<e.2.2.2.1.length:=by rw [he.a];omega
 have vm:=hu.ars m (List.mem_of_getElem? gm)
 have hr:IntKind.i64.wrap (m - 1)=m - 1:=Zou (by omega) (by omega)
 have r0:empB (0,m - 1)=false:=Z0 (by show (0:Int)≤m - 1;omega)
 have rB:isB (0,m - 1)=true:=by simp [isB,fitB];omega
 have q1:=Zj7 x (0,m - 1)
 have q2:=Zkz x (0,m - 1)
 have q3:=ZbS x (0,m - 1)
 have q4:=Zfg x (0,m - 1)
 rw [Zff vx.2 r0] at q3
 have zB:=Zod (y:=x) (p:=(0,m - 1)) vx.1 rB
 generalize mSpan x (0,m - 1)=z at q3 q4 zB
 have r1:=Zvt u t (e.1,e.2.1.set X.toNat z,e.2.2) l true G gd hG.1 hgd hm hE hn'
 have lT2:T.toNat<(e.2.1.set X.toNat z).length:=by rw [List.length_set];exact lT
 cases k1:leqB x (0,m - 1)<;>cases k2:empB z
 all_goals rw [k1] at q1
 all_goals (simp only [F_7,gm,gx,hr,Q0,q1,Zz,q3,decE,k2,Qn,r1,List.nil_append,List.length_nil,Nat.zero_add,List.length_set,limc V0,limc G0,limc A0,cond_true,cond_false,Zb,Bool.not_true,Bool.not_false,eT,eX,eG,look lX,look lT2])<;>rfl
theorem ZTe (u:U) (t n:Int) (e:E) (l:List En) (c:C) (T X Y G N op nx el:Int) {x:I} (gx:e.2.1[X.toNat]? = some x) {y:I} (gy:e.2.1[Y.toNat]? = some y) {m:Int} (gm:u.2.1[G.toNat]? = some m) {gd y':I} (hgd:e.2.2.2.1[G.toNat]? = some gd) (gy':(e.2.1.set X.toNat (mSpan x (0,m - 1)))[Y.toNat]? = some y') (hu:unitOK u) (hE:∀ x∈l,entOK x) (hn:l.length≤1000) (he:envOK u t e) (hc:u.2.2.2[t.toNat]? = some c) (ha:actOK u c (8,T,X,Y,G,N,op,nx,el)):bF u t n e l c (8,T,X,Y,G,N,op,nx,el)=some (bif empB (mSpan x (0,m - 1)) then offE else (e.1,e.2.1.set X.toNat (mSpan x (0,m - 1)),e.2.2.1,e.2.2.2.1.set G.toNat (rJoin gd y'),e.2.2.2.2),offE,(bif leqB x (0,m - 1) then [] else [9]),[(t,true,G,e.2.2.2.2.1,y)],[(t,n,true,G,true,e.2.2.2.2.1)]):=by
 obtain ⟨c',hc',hv⟩:=he.c
 obtain rfl:c'=c:=by rw [hc] at hc';exact (Option.some.inj hc').symm
 have cv:=(hu.ts c' (List.mem_of_getElem? hc')).v
 have V0:e.2.1.length≤1000:=by omega
 have G0:e.2.2.1.length≤1000:=by rw [he.g];have:=hu.g;omega
 have A0:e.2.2.2.1.length≤1000:=by rw [he.a];have:=hu.a;omega
 have hm:=he.must
 have hy:=he.may
 have hn':l.length<9223372036854775807:=by omega
 have hn2:l.length<1000000000000:=by omega
 have hX:0≤X∧X<c'.1:=Zs.1 ha.h2
 have eX:decide (0≤X)=true:=decide_eq_true hX.1
 have lX:X.toNat<e.2.1.length:=by omega
 have hY:0≤Y∧Y<c'.1:=Zs.1 ha.h3
 have eY:decide (0≤Y)=true:=decide_eq_true hY.1
 have lY:Y.toNat<e.2.1.length:=by omega
 have vx:=he.v x (List.mem_append_left _ (List.mem_append_left _ (List.mem_of_getElem? gx)))
 have hG:0≤G∧G<(u.2.1.length:Int):=Zs.1 ha.h4
 have eG:decide (0≤G)=true:=decide_eq_true hG.1
 have lG:G.toNat<e.2.2.2.1.length:=by rw [he.a];omega
 have vm:=hu.ars m (List.mem_of_getElem? gm)
 have hr:IntKind.i64.wrap (m - 1)=m - 1:=Zou (by omega) (by omega)
 have r0:empB (0,m - 1)=false:=Z0 (by show (0:Int)≤m - 1;omega)
 have rB:isB (0,m - 1)=true:=by simp [isB,fitB];omega
 have q1:=Zj7 x (0,m - 1)
 have q2:=Zkz x (0,m - 1)
 have q3:=ZbS x (0,m - 1)
 have q4:=Zfg x (0,m - 1)
 rw [Zff vx.2 r0] at q3
 have zB:=Zod (y:=x) (p:=(0,m - 1)) vx.1 rB
 generalize mSpan x (0,m - 1)=z at q3 q4 zB gy'
 cases k1:leqB x (0,m - 1)<;>cases k2:empB z
 all_goals
  rw [k1] at q1
  have yB:empB z=false→isB y'=true:=fun h=>by
   rcases List.mem_or_eq_of_mem_set (List.mem_of_getElem? gy') with h1 | h1
   ·exact (he.v y' (List.mem_append_left _ (List.mem_append_left _ h1))).1
   ·rw [h1];exact zB h
  have JE:(iJoin gd y'=rJoin gd y')∨empB z=true:=by
   cases h:empB z
   ·exact .inl (Zc2 (yB h))
   ·exact .inr rfl
  rw [k2] at JE
  simp only [Bool.true_eq_false,Bool.false_eq_true,or_false,or_true] at JE
  (simp only [F_8,gm,gx,gy,gy',hgd,hr,Q0,q1,Zz,q3,decE,k2,ZF,ZbF,JE,List.nil_append,List.length_nil,Nat.zero_add,List.length_set,limc V0,limc G0,limc A0,cond_true,cond_false,Zb,Bool.not_true,Bool.not_false,eY,eX,eG,look lX])<;>rfl
theorem ZTf (u:U) (t n:Int) (e:E) (l:List En) (c:C) (T X Y G N op nx el:Int)  (hu:unitOK u) (hE:∀ x∈l,entOK x) (hn:l.length≤1000) (he:envOK u t e) (hc:u.2.2.2[t.toNat]? = some c) (ha:actOK u c (9,T,X,Y,G,N,op,nx,el)):bF u t n e l c (9,T,X,Y,G,N,op,nx,el)=some (bif tb e.2.2.2.2.1 G then offE else (e.1,e.2.1,gmap l t false e.2.2.2.2.1 G e.2.2.1,gmap l t true e.2.2.2.2.1 G e.2.2.2.1,wiI e.2.2.2.2.1 G,wiI e.2.2.2.2.2 G),offE,(bif tb e.2.2.2.2.2 G then [11] else []),[],[]):=by
 obtain ⟨c',hc',hv⟩:=he.c
 obtain rfl:c'=c:=by rw [hc] at hc';exact (Option.some.inj hc').symm
 have cv:=(hu.ts c' (List.mem_of_getElem? hc')).v
 have V0:e.2.1.length≤1000:=by omega
 have G0:e.2.2.1.length≤1000:=by rw [he.g];have:=hu.g;omega
 have A0:e.2.2.2.1.length≤1000:=by rw [he.a];have:=hu.a;omega
 have hm:=he.must
 have hy:=he.may
 have hn':l.length<9223372036854775807:=by omega
 have hn2:l.length<1000000000000:=by omega
 have hG:0≤G∧G<u.2.2.1:=Zs.1 ha.h4
 have hM:0≤G∧G<31:=by have:=hu.m;omega
 have a1:=Zdh e.2.2.2.2.1 G (by omega)
 have a2:=Zdh e.2.2.2.2.2 G (by omega)
 have w1:=Zvu e.2.2.2.2.1 G hm
 have w2:=Zvu e.2.2.2.2.2 G hy
 have G1:e.2.2.1.length<9223372036854775807:=by omega
 have A1:e.2.2.2.1.length<9223372036854775807:=by omega
 cases k1:tb e.2.2.2.2.1 G<;>cases k2:tb e.2.2.2.2.2 G
 all_goals
  rw [k1] at a1
  rw [k2] at a2
  (simp only [F_9,ZW,a1,a2,Zak,w1,w2,Qe,Zis,ZaE hm hE hn2 G1,ZaE hm hE hn2 A1,List.nil_append,List.length_nil,Nat.zero_add,List.length_set,limc V0,limc G0,limc A0,cond_true,cond_false,Zb,Bool.not_true,Bool.not_false])<;>rfl
theorem ZPC (u:U) (t n:Int) (e:E) (l:List En) (c:C) (T X Y G N op nx el:Int)  (hu:unitOK u) (hE:∀ x∈l,entOK x) (hn:l.length≤1000) (he:envOK u t e) (hc:u.2.2.2[t.toNat]? = some c) (ha:actOK u c (10,T,X,Y,G,N,op,nx,el)):bF u t n e l c (10,T,X,Y,G,N,op,nx,el)=some (bif tb e.2.2.2.2.2 G then (e.1,e.2.1,e.2.2.1,e.2.2.2.1,woI e.2.2.2.2.1 G,woI e.2.2.2.2.2 G) else offE,offE,(bif tb e.2.2.2.2.1 G then [] else [12]),[],[]):=by
 obtain ⟨c',hc',hv⟩:=he.c
 obtain rfl:c'=c:=by rw [hc] at hc';exact (Option.some.inj hc').symm
 have cv:=(hu.ts c' (List.mem_of_getElem? hc')).v
 have V0:e.2.1.length≤1000:=by omega
 have G0:e.2.2.1.length≤1000:=by rw [he.g];have:=hu.g;omega
 have A0:e.2.2.2.1.length≤1000:=by rw [he.a];have:=hu.a;omega
 have hm:=he.must
 have hy:=he.may
 have hn':l.length<9223372036854775807:=by omega
 have hn2:l.length<1000000000000:=by omega
 have hG:0≤G∧G<u.2.2.1:=Zs.1 ha.h4
 have hM:0≤G∧G<31:=by have:=hu.m;omega
 have a1:=Zdh e.2.2.2.2.1 G (by omega)
 have a2:=Zdh e.2.2.2.2.2 G (by omega)
 cases k1:tb e.2.2.2.2.1 G<;>cases k2:tb e.2.2.2.2.2 G
 all_goals
  rw [k1] at a1
  rw [k2] at a2
  (simp only [Z2m,ZW,a1,a2,Ju,ZEd,List.nil_append,List.length_nil,Nat.zero_add,List.length_set,limc V0,limc G0,limc A0,cond_true,cond_false,Zb,Bool.not_true,Bool.not_false])<;>rfl
theorem ZPD (u:U) (t n:Int) (e:E) (l:List En) (c:C) (T X Y G N op nx el:Int) {x:I} (gx:e.2.1[X.toNat]? = some x) {y:I} (gy:e.2.1[Y.toNat]? = some y) {w:Int} (n1:Zrc op=some w) (hu:unitOK u) (hE:∀ x∈l,entOK x) (hn:l.length≤1000) (he:envOK u t e) (hc:u.2.2.2[t.toNat]? = some c) (ha:actOK u c (11,T,X,Y,G,N,op,nx,el)):bF u t n e l c (11,T,X,Y,G,N,op,nx,el)=some (sideV e X Y op x y,sideV e X Y w x y,[],[],[]):=by
 obtain ⟨c',hc',hv⟩:=he.c
 obtain rfl:c'=c:=by rw [hc] at hc';exact (Option.some.inj hc').symm
 have cv:=(hu.ts c' (List.mem_of_getElem? hc')).v
 have V0:e.2.1.length≤1000:=by omega
 have G0:e.2.2.1.length≤1000:=by rw [he.g];have:=hu.g;omega
 have A0:e.2.2.2.1.length≤1000:=by rw [he.a];have:=hu.a;omega
 have hm:=he.must
 have hy:=he.may
 have hn':l.length<9223372036854775807:=by omega
 have hn2:l.length<1000000000000:=by omega
 have hX:0≤X∧X<c'.1:=Zs.1 ha.h2
 have eX:decide (0≤X)=true:=decide_eq_true hX.1
 have lX:X.toNat<e.2.1.length:=by omega
 have hY:0≤Y∧Y<c'.1:=Zs.1 ha.h3
 have eY:decide (0≤Y)=true:=decide_eq_true hY.1
 have lY:Y.toNat<e.2.1.length:=by omega
 have vx:=he.v x (List.mem_append_left _ (List.mem_append_left _ (List.mem_of_getElem? gx)))
 have vy:=he.v y (List.mem_append_left _ (List.mem_append_left _ (List.mem_of_getElem? gy)))
 have f1:=Zs0 op x y vx.1 vy.1
 have f3:=Zs0 w x y vx.1 vy.1
 have p1:=ZF4 op x y
 have p3:=ZF4 w x y
 unfold sideV
 generalize refI op x y=a at f1 p1
 generalize refI w x y=b at f3 p3
 have m1:=ZbS a.1 a.2
 have m3:=ZbS b.1 b.2
 rw [p1] at m1
 rw [p3] at m3
 generalize mSpan a.1 a.2=z at m1
 generalize mSpan b.1 b.2=o at m3
 have lY2 (v:I):Y.toNat<(e.2.1.set X.toNat v).length:=by rw [List.length_set];exact lY
 cases kXY:X==Y
 ·cases k1:empB a.1<;>cases k2:empB a.2<;>cases k3:empB b.1<;>cases k4:empB b.2
  all_goals (simp only [ZXt,gx,gy,ZP,f1,f3,Kb,n1,Zz,m1,m3,kXY,ZrE,ZoA,decE,k1,k2,k3,k4,List.nil_append,List.length_nil,Nat.zero_add,List.length_set,limc V0,limc G0,limc A0,cond_true,cond_false,Zb,Bool.not_true,Bool.not_false,eX,eY,look lX,look (lY2 _)])<;>rfl
 ·cases k1:empB z<;>cases k3:empB o
  all_goals (simp only [ZXt,gx,gy,ZP,f1,f3,Kb,n1,Zz,m1,m3,kXY,ZrE,ZoA,decE,k1,k3,List.nil_append,List.length_nil,Nat.zero_add,List.length_set,limc V0,limc G0,limc A0,cond_true,cond_false,Zb,Bool.not_true,Bool.not_false,eX,eY,look lX,look (lY2 _)])<;>rfl
theorem ZPE (u:U) (t n:Int) (e:E) (l:List En) (c:C) (T X Y G N op nx el:Int)  (hu:unitOK u) (hE:∀ x∈l,entOK x) (hn:l.length≤1000) (he:envOK u t e) (hc:u.2.2.2[t.toNat]? = some c) (ha:actOK u c (12,T,X,Y,G,N,op,nx,el)):bF u t n e l c (12,T,X,Y,G,N,op,nx,el)=some (e,offE,[],[],[]):=by
 obtain ⟨c',hc',hv⟩:=he.c
 obtain rfl:c'=c:=by rw [hc] at hc';exact (Option.some.inj hc').symm
 have cv:=(hu.ts c' (List.mem_of_getElem? hc')).v
 have V0:e.2.1.length≤1000:=by omega
 have G0:e.2.2.1.length≤1000:=by rw [he.g];have:=hu.g;omega
 have A0:e.2.2.2.1.length≤1000:=by rw [he.a];have:=hu.a;omega
 have hm:=he.must
 have hy:=he.may
 have hn':l.length<9223372036854775807:=by omega
 have hn2:l.length<1000000000000:=by omega
 (simp only [Z2n])<;>rfl
theorem ZPF (u:U) (t n:Int) (e:E) (l:List En) (c:C) (T X Y G N op nx el:Int)  (hu:unitOK u) (hE:∀ x∈l,entOK x) (hn:l.length≤1000) (he:envOK u t e) (hc:u.2.2.2[t.toNat]? = some c) (ha:actOK u c (13,T,X,Y,G,N,op,nx,el)):bF u t n e l c (13,T,X,Y,G,N,op,nx,el)=some (offE,offE,[10],[],[]):=by
 obtain ⟨c',hc',hv⟩:=he.c
 obtain rfl:c'=c:=by rw [hc] at hc';exact (Option.some.inj hc').symm
 have cv:=(hu.ts c' (List.mem_of_getElem? hc')).v
 have V0:e.2.1.length≤1000:=by omega
 have G0:e.2.2.1.length≤1000:=by rw [he.g];have:=hu.g;omega
 have A0:e.2.2.2.1.length≤1000:=by rw [he.a];have:=hu.a;omega
 have hm:=he.must
 have hy:=he.may
 have hn':l.length<9223372036854775807:=by omega
 have hn2:l.length<1000000000000:=by omega
 (simp only [Z2o])<;>rfl
theorem ZPG (u:U) (t n:Int) (e:E) (l:List En) (c:C) (T X Y G N op nx el:Int)  (hu:unitOK u) (hE:∀ x∈l,entOK x) (hn:l.length≤1000) (he:envOK u t e) (hc:u.2.2.2[t.toNat]? = some c) (ha:actOK u c (14,T,X,Y,G,N,op,nx,el)):bF u t n e l c (14,T,X,Y,G,N,op,nx,el)=some (offE,offE,[],[],[]):=by
 obtain ⟨c',hc',hv⟩:=he.c
 obtain rfl:c'=c:=by rw [hc] at hc';exact (Option.some.inj hc').symm
 have cv:=(hu.ts c' (List.mem_of_getElem? hc')).v
 have V0:e.2.1.length≤1000:=by omega
 have G0:e.2.2.1.length≤1000:=by rw [he.g];have:=hu.g;omega
 have A0:e.2.2.2.1.length≤1000:=by rw [he.a];have:=hu.a;omega
 have hm:=he.must
 have hy:=he.may
 have hn':l.length<9223372036854775807:=by omega
 have hn2:l.length<1000000000000:=by omega
 (simp only [Z2p])<;>rfl
theorem Zem {x y:I} (h:leqB x y=true) (hx:empB x=false):sub x y∧empB y=false:=by
 have:=ZL hx
 rw [QK] at h
 unfold sub at *
 refine ⟨by omega,Z0 (by omega)⟩
def subB (a b:Int):Prop:=∀ i:Nat,a.toNat.testBit i=true→b.toNat.testBit i=true
theorem Z4S (u:U) (t n:Int) (e:E) (l:List En) (c:C) (T X Y G N op nx el:Int) (h0:0≤t) (hu:unitOK u) (hl:tabOK l) (hn:l.length≤1000) (he:envOK u t e) (hc:u.2.2.2[t.toNat]? = some c) (ha:actOK u c (9,T,X,Y,G,N,op,nx,el)):∃ o,bF u t n e l c (9,T,X,Y,G,N,op,nx,el)=some o∧bR u t n e l c (9,T,X,Y,G,N,op,nx,el)=some o∧Zbb o:=by
 obtain ⟨c',hc',hv⟩:=he.c
 obtain rfl:c'=c:=by rw [hc] at hc';exact (Option.some.inj hc').symm
 have cv:=(hu.ts c' (List.mem_of_getElem? hc')).v
 have V0:e.2.1.length≤1000:=by omega
 have G0:e.2.2.1.length≤1000:=by rw [he.g];have:=hu.g;omega
 have A0:e.2.2.2.1.length≤1000:=by rw [he.a];have:=hu.a;omega
 have hE:=hl.e
 have hm:=he.must
 have hy:=he.may
 have hn':l.length<9223372036854775807:=by omega
 have hn2:l.length<1000000000000:=by omega
 have hG:0≤G∧G<u.2.2.1:=Zs.1 ha.h4
 have hM:0≤G∧G<31:=by have:=hu.m;omega
 have a1:=Zdh e.2.2.2.2.1 G (by omega)
 have a2:=Zdh e.2.2.2.2.2 G (by omega)
 have b1:=Zs2 e.2.2.2.2.1 G hm
 have b2:=Zs2 e.2.2.2.2.2 G hy
 have w1:=Zvu e.2.2.2.2.1 G hm
 have w2:=Zvu e.2.2.2.2.2 G hy
 have z1:=ZMJ e.2.2.2.2.1 G hm hM
 have z2:=ZMJ e.2.2.2.2.2 G hy hM
 have G1:e.2.2.1.length<9223372036854775807:=by omega
 have A1:e.2.2.2.1.length<9223372036854775807:=by omega
 cases k1:tb e.2.2.2.2.1 G<;>cases k2:tb e.2.2.2.2.2 G
 all_goals
  rw [k1] at a1 b1
  rw [k2] at a2 b2
  apply exO
  ·simp only [F_9,ZW,a1,a2,Zak,w1,w2,Qe,Zis,ZaE hm hE hn2 G1,ZaE hm hE hn2 A1,List.nil_append,List.length_nil,Nat.zero_add,List.length_set,limc V0,limc G0,limc A0,cond_true,cond_false,Zb,Bool.not_true,Bool.not_false]
   rfl
  ·(simp only [R_9,ZrJ,ZzB,Zaz,b1,b2,Zl1,z1,z2,ZFN hm hE hn2 G1,ZFO hm hE hn2 G1,ZFP hm hE hn2 A1,ZFQ hm hE hn2 A1,show decide ((0:Int)<((0:Nat):Int))=false from rfl,List.nil_append,List.length_nil,Nat.zero_add,List.length_set,limc V0,limc G0,limc A0,cond_true,cond_false,Zb,Bool.not_true,Bool.not_false])<;>rfl
  ·refine ⟨⟨?_,?_,?_⟩,⟨?_,?_,?_⟩,?_,?_,?_⟩<;>simp only [List.length_set,List.length_nil,List.length_cons,gmap,List.length_mapIdx]<;>omega
theorem Z4e (u:U) (t n:Int) (e:E) (l:List En) (c:C) (T X Y G N op nx el:Int) (h0:0≤t) (hu:unitOK u) (hl:tabOK l) (hn:l.length≤1000) (he:envOK u t e) (hc:u.2.2.2[t.toNat]? = some c) (ha:actOK u c (10,T,X,Y,G,N,op,nx,el)):∃ o,bF u t n e l c (10,T,X,Y,G,N,op,nx,el)=some o∧bR u t n e l c (10,T,X,Y,G,N,op,nx,el)=some o∧Zbb o:=by
 obtain ⟨c',hc',hv⟩:=he.c
 obtain rfl:c'=c:=by rw [hc] at hc';exact (Option.some.inj hc').symm
 have cv:=(hu.ts c' (List.mem_of_getElem? hc')).v
 have V0:e.2.1.length≤1000:=by omega
 have G0:e.2.2.1.length≤1000:=by rw [he.g];have:=hu.g;omega
 have A0:e.2.2.2.1.length≤1000:=by rw [he.a];have:=hu.a;omega
 have hE:=hl.e
 have hm:=he.must
 have hy:=he.may
 have hn':l.length<9223372036854775807:=by omega
 have hn2:l.length<1000000000000:=by omega
 have hG:0≤G∧G<u.2.2.1:=Zs.1 ha.h4
 have hM:0≤G∧G<31:=by have:=hu.m;omega
 have a1:=Zdh e.2.2.2.2.1 G (by omega)
 have a2:=Zdh e.2.2.2.2.2 G (by omega)
 have b1:=Zs2 e.2.2.2.2.1 G hm
 have b2:=Zs2 e.2.2.2.2.2 G hy
 cases k1:tb e.2.2.2.2.1 G<;>cases k2:tb e.2.2.2.2.2 G
 all_goals
  rw [k1] at a1 b1
  rw [k2] at a2 b2
  apply exO
  ·simp only [Z2m,ZW,a1,a2,Ju,ZEd,List.nil_append,List.length_nil,Nat.zero_add,List.length_set,limc V0,limc G0,limc A0,cond_true,cond_false,Zb,Bool.not_true,Bool.not_false]
   rfl
  ·(simp only [Z4E,Zow,ZuI,Zaz,b1,b2,Zfi,ZP5 _ _ hM,show decide ((0:Int)<((0:Nat):Int))=false from rfl,List.nil_append,List.length_nil,Nat.zero_add,List.length_set,limc V0,limc G0,limc A0,cond_true,cond_false,Zb,Bool.not_true,Bool.not_false])<;>rfl
  ·refine ⟨⟨?_,?_,?_⟩,⟨?_,?_,?_⟩,?_,?_,?_⟩<;>simp only [List.length_set,List.length_nil,List.length_cons,gmap,List.length_mapIdx]<;>omega
theorem Z4N (u:U) (t n:Int) (e:E) (l:List En) (c:C) (T X Y G N op nx el:Int) (h0:0≤t) (hu:unitOK u) (hl:tabOK l) (hn:l.length≤1000) (he:envOK u t e) (hc:u.2.2.2[t.toNat]? = some c) (ha:actOK u c (4,T,X,Y,G,N,op,nx,el)):∃ o,bF u t n e l c (4,T,X,Y,G,N,op,nx,el)=some o∧bR u t n e l c (4,T,X,Y,G,N,op,nx,el)=some o∧Zbb o:=by
 obtain ⟨c',hc',hv⟩:=he.c
 obtain rfl:c'=c:=by rw [hc] at hc';exact (Option.some.inj hc').symm
 have cv:=(hu.ts c' (List.mem_of_getElem? hc')).v
 have V0:e.2.1.length≤1000:=by omega
 have G0:e.2.2.1.length≤1000:=by rw [he.g];have:=hu.g;omega
 have A0:e.2.2.2.1.length≤1000:=by rw [he.a];have:=hu.a;omega
 have hE:=hl.e
 have hm:=he.must
 have hy:=he.may
 have hn':l.length<9223372036854775807:=by omega
 have hn2:l.length<1000000000000:=by omega
 have hT:0≤T∧T<c'.1:=Zs.1 ha.h1
 have eT:decide (0≤T)=true:=decide_eq_true hT.1
 have lT:T.toNat<e.2.1.length:=by omega
 have hX:0≤X∧X<c'.1:=Zs.1 ha.h2
 have eX:decide (0≤X)=true:=decide_eq_true hX.1
 have lX:X.toNat<e.2.1.length:=by omega
 have hY:0≤Y∧Y<c'.1:=Zs.1 ha.h3
 have eY:decide (0≤Y)=true:=decide_eq_true hY.1
 have lY:Y.toNat<e.2.1.length:=by omega
 obtain ⟨x,gx⟩:=ZE e.2.1 X (by omega)
 have vx:=he.v x (List.mem_append_left _ (List.mem_append_left _ (List.mem_of_getElem? gx)))
 obtain ⟨y,gy⟩:=ZE e.2.1 Y (by omega)
 have vy:=he.v y (List.mem_append_left _ (List.mem_append_left _ (List.mem_of_getElem? gy)))
 have d1:=ZUi op x y vx.1 vy.1
 have d2:=ZYS op x y vx.1 vy.1
 generalize doI op x y=r at d1 d2
 obtain ⟨z,o,w⟩:=r
 simp only at d1 d2
 cases o<;>cases w<;>cases k:decide (z.1>z.2)
 all_goals
  apply exO
  ·simp only [F_4,gx,gy,ZyY,d1,k,List.nil_append,List.length_nil,Nat.zero_add,List.length_set,limc V0,limc G0,limc A0,cond_true,cond_false,Zb,Bool.not_true,Bool.not_false,eT,eX,eY,look lT]
   rfl
  ·(simp only [R_4,Zx2,ZFF,gx,gy,ZJk,d2,k,Zq,Zat e T z hT.1 (by omega) V0,eX,eY,show decide ((0:Int)<((0:Nat):Int))=false from rfl,List.nil_append,List.length_nil,Nat.zero_add,List.length_set,limc V0,limc G0,limc A0,cond_true,cond_false,Zb,Bool.not_true,Bool.not_false])<;>rfl
  ·refine ⟨⟨?_,?_,?_⟩,⟨?_,?_,?_⟩,?_,?_,?_⟩<;>simp only [List.length_set,List.length_nil,List.length_cons]<;>omega
theorem Z4Q (u:U) (t n:Int) (e:E) (l:List En) (c:C) (T X Y G N op nx el:Int) (h0:0≤t) (hu:unitOK u) (hl:tabOK l) (hn:l.length≤1000) (he:envOK u t e) (hc:u.2.2.2[t.toNat]? = some c) (ha:actOK u c (7,T,X,Y,G,N,op,nx,el)):∃ o,bF u t n e l c (7,T,X,Y,G,N,op,nx,el)=some o∧bR u t n e l c (7,T,X,Y,G,N,op,nx,el)=some o∧Zbb o:=by
 obtain ⟨c',hc',hv⟩:=he.c
 obtain rfl:c'=c:=by rw [hc] at hc';exact (Option.some.inj hc').symm
 have cv:=(hu.ts c' (List.mem_of_getElem? hc')).v
 have V0:e.2.1.length≤1000:=by omega
 have G0:e.2.2.1.length≤1000:=by rw [he.g];have:=hu.g;omega
 have A0:e.2.2.2.1.length≤1000:=by rw [he.a];have:=hu.a;omega
 have hE:=hl.e
 have hm:=he.must
 have hy:=he.may
 have hn':l.length<9223372036854775807:=by omega
 have hn2:l.length<1000000000000:=by omega
 have hT:0≤T∧T<c'.1:=Zs.1 ha.h1
 have eT:decide (0≤T)=true:=decide_eq_true hT.1
 have lT:T.toNat<e.2.1.length:=by omega
 have hX:0≤X∧X<c'.1:=Zs.1 ha.h2
 have eX:decide (0≤X)=true:=decide_eq_true hX.1
 have lX:X.toNat<e.2.1.length:=by omega
 obtain ⟨x,gx⟩:=ZE e.2.1 X (by omega)
 have vx:=he.v x (List.mem_append_left _ (List.mem_append_left _ (List.mem_of_getElem? gx)))
 have hG:0≤G∧G<(u.2.1.length:Int):=Zs.1 ha.h4
 have eG:decide (0≤G)=true:=decide_eq_true hG.1
 have lG:G.toNat<e.2.2.2.1.length:=by rw [he.a];omega
 obtain ⟨gd,hgd⟩:=ZE e.2.2.2.1 G (by rw [he.a];omega)
 obtain ⟨m,gm⟩:=ZE u.2.1 G hG
 have vm:=hu.ars m (List.mem_of_getElem? gm)
 have hr:IntKind.i64.wrap (m - 1)=m - 1:=Zou (by omega) (by omega)
 have r0:empB (0,m - 1)=false:=Z0 (by show (0:Int)≤m - 1;omega)
 have rB:isB (0,m - 1)=true:=by simp [isB,fitB];omega
 have q1:=Zj7 x (0,m - 1)
 have q2:=Zkz x (0,m - 1)
 have q3:=ZbS x (0,m - 1)
 have q4:=Zfg x (0,m - 1)
 rw [Zff vx.2 r0] at q3
 have zB:=Zod (y:=x) (p:=(0,m - 1)) vx.1 rB
 generalize mSpan x (0,m - 1)=z at q3 q4 zB
 have wx:=Zat e X z hX.1 (by omega) V0
 have r1:=Zvt u t (e.1,e.2.1.set X.toNat z,e.2.2) l true G gd hG.1 hgd hm hE hn'
 have r2:=ZKu t (e.1,e.2.1.set X.toNat z,e.2.2) l true G gd hG.1 hgd hm hE hn'
 have lT2:T.toNat<(e.2.1.set X.toNat z).length:=by rw [List.length_set];exact lT
 have wz (v:I):Zi3 (e.1,e.2.1.set X.toNat z,e.2.2) T v=some (e.1,(e.2.1.set X.toNat z).set T.toNat v,e.2.2):=Zat (e.1,e.2.1.set X.toNat z,e.2.2) T v hT.1 (by show T<((e.2.1.set X.toNat z).length:Int);rw [List.length_set];omega) (by show (e.2.1.set X.toNat z).length≤1000;rw [List.length_set];exact V0)
 cases k1:leqB x (0,m - 1)<;>cases k2:decide (z.1>z.2)
 all_goals rw [k1] at q1 q2
 all_goals
  apply exO
  ·simp only [F_7,gm,gx,hr,Q0,q1,Zz,q3,k2,Qn,r1,List.nil_append,List.length_nil,Nat.zero_add,List.length_set,limc V0,limc G0,limc A0,cond_true,cond_false,Zb,Bool.not_true,Bool.not_false,eT,eX,eG,look lX,look lT2]
   rfl
  ·(simp only [R_7,gm,gx,hr,Hq,q2,ZU,q4,k2,Zq,wx,wz,Qu,r2,eX,eG,List.nil_append,List.length_nil,Nat.zero_add,List.length_set,limc V0,limc G0,limc A0,cond_true,cond_false,Zb,Bool.not_true,Bool.not_false])<;>rfl
  ·refine ⟨⟨?_,?_,?_⟩,⟨?_,?_,?_⟩,?_,?_,?_⟩<;>simp only [List.length_set,List.length_nil,List.length_cons,gmap,List.length_mapIdx]<;>omega
theorem Z4R (u:U) (t n:Int) (e:E) (l:List En) (c:C) (T X Y G N op nx el:Int) (h0:0≤t) (hu:unitOK u) (hl:tabOK l) (hn:l.length≤1000) (he:envOK u t e) (hc:u.2.2.2[t.toNat]? = some c) (ha:actOK u c (8,T,X,Y,G,N,op,nx,el)):∃ o,bF u t n e l c (8,T,X,Y,G,N,op,nx,el)=some o∧bR u t n e l c (8,T,X,Y,G,N,op,nx,el)=some o∧Zbb o:=by
 obtain ⟨c',hc',hv⟩:=he.c
 obtain rfl:c'=c:=by rw [hc] at hc';exact (Option.some.inj hc').symm
 have cv:=(hu.ts c' (List.mem_of_getElem? hc')).v
 have V0:e.2.1.length≤1000:=by omega
 have G0:e.2.2.1.length≤1000:=by rw [he.g];have:=hu.g;omega
 have A0:e.2.2.2.1.length≤1000:=by rw [he.a];have:=hu.a;omega
 have hE:=hl.e
 have hm:=he.must
 have hy:=he.may
 have hn':l.length<9223372036854775807:=by omega
 have hn2:l.length<1000000000000:=by omega
 have hX:0≤X∧X<c'.1:=Zs.1 ha.h2
 have eX:decide (0≤X)=true:=decide_eq_true hX.1
 have lX:X.toNat<e.2.1.length:=by omega
 have hY:0≤Y∧Y<c'.1:=Zs.1 ha.h3
 have eY:decide (0≤Y)=true:=decide_eq_true hY.1
 have lY:Y.toNat<e.2.1.length:=by omega
 obtain ⟨x,gx⟩:=ZE e.2.1 X (by omega)
 have vx:=he.v x (List.mem_append_left _ (List.mem_append_left _ (List.mem_of_getElem? gx)))
 obtain ⟨y,gy⟩:=ZE e.2.1 Y (by omega)
 have vy:=he.v y (List.mem_append_left _ (List.mem_append_left _ (List.mem_of_getElem? gy)))
 have hG:0≤G∧G<(u.2.1.length:Int):=Zs.1 ha.h4
 have eG:decide (0≤G)=true:=decide_eq_true hG.1
 have lG:G.toNat<e.2.2.2.1.length:=by rw [he.a];omega
 obtain ⟨gd,hgd⟩:=ZE e.2.2.2.1 G (by rw [he.a];omega)
 obtain ⟨m,gm⟩:=ZE u.2.1 G hG
 have vm:=hu.ars m (List.mem_of_getElem? gm)
 have hr:IntKind.i64.wrap (m - 1)=m - 1:=Zou (by omega) (by omega)
 have r0:empB (0,m - 1)=false:=Z0 (by show (0:Int)≤m - 1;omega)
 have rB:isB (0,m - 1)=true:=by simp [isB,fitB];omega
 have q1:=Zj7 x (0,m - 1)
 have q2:=Zkz x (0,m - 1)
 have q3:=ZbS x (0,m - 1)
 have q4:=Zfg x (0,m - 1)
 rw [Zff vx.2 r0] at q3
 have zB:=Zod (y:=x) (p:=(0,m - 1)) vx.1 rB
 generalize mSpan x (0,m - 1)=z at q3 q4 zB
 have wx:=Zat e X z hX.1 (by omega) V0
 obtain ⟨y',gy'⟩:=ZE (e.2.1.set X.toNat z) Y (by rw [List.length_set];omega)
 cases k1:leqB x (0,m - 1)<;>cases k2:decide (z.1>z.2)
 all_goals
  rw [k1] at q1 q2
  have yB:decide (z.1>z.2)=false→isB y'=true:=fun h=>by
   rcases List.mem_or_eq_of_mem_set (List.mem_of_getElem? gy') with h1 | h1
   ·exact (he.v y' (List.mem_append_left _ (List.mem_append_left _ h1))).1
   ·rw [h1];exact zB h
  have JE:(iJoin gd y'=rJoin gd y')∨decide (z.1>z.2)=true:=by
   cases h:decide (z.1>z.2)
   ·exact .inl (Zc2 (yB h))
   ·exact .inr rfl
  rw [k2] at JE
  simp only [Bool.true_eq_false,Bool.false_eq_true,or_false,or_true] at JE
 all_goals
  apply exO
  ·simp only [F_8,gm,gx,gy,gy',hgd,hr,Q0,q1,Zz,q3,k2,ZF,ZbF,JE,List.nil_append,List.length_nil,Nat.zero_add,List.length_set,limc V0,limc G0,limc A0,cond_true,cond_false,Zb,Bool.not_true,Bool.not_false,eY,eX,eG,look lX]
   rfl
  ·(simp only [R_8,gm,gx,gy,gy',hgd,hr,Hq,q2,ZU,q4,k2,Zq,wx,ZD,VW,eX,eY,eG,List.nil_append,List.length_nil,Nat.zero_add,List.length_set,limc V0,limc G0,limc A0,cond_true,cond_false,Zb,Bool.not_true,Bool.not_false])<;>rfl
  ·refine ⟨⟨?_,?_,?_⟩,⟨?_,?_,?_⟩,?_,?_,?_⟩<;>simp only [List.length_set,List.length_nil,List.length_cons,gmap,List.length_mapIdx]<;>omega
theorem Z4f (u:U) (t n:Int) (e:E) (l:List En) (c:C) (T X Y G N op nx el:Int) (h0:0≤t) (hu:unitOK u) (hl:tabOK l) (hn:l.length≤1000) (he:envOK u t e) (hc:u.2.2.2[t.toNat]? = some c) (ha:actOK u c (11,T,X,Y,G,N,op,nx,el)):∃ o,bF u t n e l c (11,T,X,Y,G,N,op,nx,el)=some o∧bR u t n e l c (11,T,X,Y,G,N,op,nx,el)=some o∧Zbb o:=by
 obtain ⟨c',hc',hv⟩:=he.c
 obtain rfl:c'=c:=by rw [hc] at hc';exact (Option.some.inj hc').symm
 have cv:=(hu.ts c' (List.mem_of_getElem? hc')).v
 have V0:e.2.1.length≤1000:=by omega
 have G0:e.2.2.1.length≤1000:=by rw [he.g];have:=hu.g;omega
 have A0:e.2.2.2.1.length≤1000:=by rw [he.a];have:=hu.a;omega
 have hE:=hl.e
 have hm:=he.must
 have hy:=he.may
 have hn':l.length<9223372036854775807:=by omega
 have hn2:l.length<1000000000000:=by omega
 have hX:0≤X∧X<c'.1:=Zs.1 ha.h2
 have eX:decide (0≤X)=true:=decide_eq_true hX.1
 have lX:X.toNat<e.2.1.length:=by omega
 have hY:0≤Y∧Y<c'.1:=Zs.1 ha.h3
 have eY:decide (0≤Y)=true:=decide_eq_true hY.1
 have lY:Y.toNat<e.2.1.length:=by omega
 obtain ⟨x,gx⟩:=ZE e.2.1 X (by omega)
 have vx:=he.v x (List.mem_append_left _ (List.mem_append_left _ (List.mem_of_getElem? gx)))
 obtain ⟨y,gy⟩:=ZE e.2.1 Y (by omega)
 have vy:=he.v y (List.mem_append_left _ (List.mem_append_left _ (List.mem_of_getElem? gy)))
 obtain ⟨w,n1⟩:=ZOS op
 have n2:ZFG op=some w:=n1
 have f1:=Zs0 op x y vx.1 vy.1
 have f2:=ZHU op x y vx.1 vy.1
 have f3:=Zs0 w x y vx.1 vy.1
 have f4:=ZHU w x y vx.1 vy.1
 have p1:=ZF4 op x y
 have p3:=ZF4 w x y
 generalize refI op x y=a at f1 f2 p1
 generalize refI w x y=b at f3 f4 p3
 have m1:=ZbS a.1 a.2
 have m2:=Zfg a.1 a.2
 have m3:=ZbS b.1 b.2
 have m4:=Zfg b.1 b.2
 rw [p1] at m1
 rw [p3] at m3
 generalize mSpan a.1 a.2=z at m1 m2
 generalize mSpan b.1 b.2=o at m3 m4
 have lY2 (v:I):Y.toNat<(e.2.1.set X.toNat v).length:=by rw [List.length_set];exact lY
 have w1 (v:I):=Zat e X v hX.1 (by omega) V0
 have w2 (v v':I):Zi3 (e.1,e.2.1.set X.toNat v,e.2.2) Y v'=some (e.1,(e.2.1.set X.toNat v).set Y.toNat v',e.2.2):=Zat (e.1,e.2.1.set X.toNat v,e.2.2) Y v' hY.1 (by show Y<((e.2.1.set X.toNat v).length:Int);rw [List.length_set];omega) (by show (e.2.1.set X.toNat v).length≤1000;rw [List.length_set];exact V0)
 cases kXY:X==Y
 ·cases k1:decide (a.1.1>a.1.2)<;>cases k2:decide (a.2.1>a.2.2)<;>cases k3:decide (b.1.1>b.1.2)<;>cases k4:decide (b.2.1>b.2.2)
  all_goals
   apply exO
   ·simp only [ZXt,gx,gy,ZP,f1,f3,Kb,n1,Zz,m1,m3,kXY,ZrE,ZoA,List.nil_append,List.length_nil,Nat.zero_add,List.length_set,limc V0,limc G0,limc A0,cond_true,cond_false,Zb,Bool.not_true,Bool.not_false,eX,eY,look lX,look (lY2 _),k1,k2,k3,k4]
    rfl
   ·(simp only [Z2q,Zfk,ZsI,gx,gy,Zp9,f2,f4,ZrK,n2,ZU,m2,m4,kXY,Zq,w1,w2,eX,eY,List.nil_append,List.length_nil,Nat.zero_add,List.length_set,limc V0,limc G0,limc A0,cond_true,cond_false,Zb,Bool.not_true,Bool.not_false,k1,k2,k3,k4])<;>rfl
   ·refine ⟨⟨?_,?_,?_⟩,⟨?_,?_,?_⟩,?_,?_,?_⟩<;>simp only [List.length_set,List.length_nil,List.length_cons]<;>omega
 ·cases k1:decide (z.1>z.2)<;>cases k3:decide (o.1>o.2)
  all_goals
   apply exO
   ·simp only [ZXt,gx,gy,ZP,f1,f3,Kb,n1,Zz,m1,m3,kXY,ZrE,ZoA,List.nil_append,List.length_nil,Nat.zero_add,List.length_set,limc V0,limc G0,limc A0,cond_true,cond_false,Zb,Bool.not_true,Bool.not_false,eX,eY,look lX,look (lY2 _),k1,k3]
    rfl
   ·(simp only [Z2q,Zfk,ZsI,gx,gy,Zp9,f2,f4,ZrK,n2,ZU,m2,m4,kXY,Zq,w1,w2,eX,eY,List.nil_append,List.length_nil,Nat.zero_add,List.length_set,limc V0,limc G0,limc A0,cond_true,cond_false,Zb,Bool.not_true,Bool.not_false,k1,k3])<;>rfl
   ·refine ⟨⟨?_,?_,?_⟩,⟨?_,?_,?_⟩,?_,?_,?_⟩<;>simp only [List.length_set,List.length_nil,List.length_cons]<;>omega
section
open Go.Proofs
theorem ZPY {x y:I} (hx:isB x=true) (hy:isB y=true):isB (iJoin x y)=true:=by rw [Zc2 hy];exact ZkA hx hy
theorem ZFM (r:I):isB (iMeet r aa)=true:=by
 cases h:empB (iMeet r aa)
 ·obtain ⟨e,_,_,h4⟩:=ZzD h
  rw [e]
  refine ZlV ?_ h4 ?_<;>simp only [aa,mx,mn]<;>omega
 ·unfold iMeet at h ⊢
  repeat' split at h
  all_goals first | (rename_i k1 k2 k3;rw [if_neg k1,if_neg k2,if_neg k3];exact absurd h k3) | skip
  all_goals (repeat' split)<;>first | rfl | contradiction
theorem Z27 {x y:I} (hx:isB x=true) (ex:empB x=false):isB (remI x y)=true:=by
 unfold remI
 split
 ·rfl
 rename_i h0
 obtain ⟨k1,k2⟩:=Zi6 hx (ZL ex)
 have kx:=ZL ex
 refine ZlV ?_ ?_ ?_<;>simp only [mx,mn]<;>(repeat' split)<;>omega
theorem Z2Z (x y:I):isB (quoV x y).1=true:=by
 have h1:isB (Zs9 x y).1=true:=by
  unfold Zs9
  split
  ·rfl
  ·exact ZPY ZXR (ZFM _)
 unfold quoV
 split
 ·exact h1
 ·exact ZPY h1 (ZFM _)
theorem Z2D (op:Int) {x y:I} (hx:isB x=true):isB (doI op x y).1=true:=by
 unfold doI
 split
 ·rfl
 rename_i h
 simp only [Bool.or_eq_true,not_or,Bool.not_eq_true] at h
 (repeat' split)<;>first | exact ZFM _ | exact Z2Z _ _ | exact Z27 hx h.1
theorem ZWl {x y c d:I} (hc:empB c=false→isB c=true) (hd:empB d=false→isB d=true):isB (both x y c d).1=true∧isB (both x y c d).2=true:=by
 unfold both
 split
 ·exact ⟨rfl,rfl⟩
 ·rename_i h
  simp only [Bool.or_eq_true,not_or,Bool.not_eq_true] at h
  exact ⟨hc h.1.2,hd h.2⟩
theorem Z1I (r:Int) {x y:I} (hx:isB x=true) (hy:isB y=true) (ex:empB x=false) (ey:empB y=false):isB (refI r x y).1=true∧isB (refI r x y).2=true:=by
 obtain ⟨x1,x2⟩:=Zi6 hx (ZL ex)
 obtain ⟨y1,y2⟩:=Zi6 hy (ZL ey)
 have kx:=ZL ex
 have ky:=ZL ey
 have hm:empB (iMeet x y)=false→isB (iMeet x y)=true:=Z0i hx hy
 unfold refI
 (repeat' split)<;>first | exact ⟨rfl,rfl⟩ | exact ZWl hm hm | skip
 all_goals
  refine ZWl (fun k=>?_) (fun k=>?_)<;>have k':=ZL k<;>revert k'<;>simp only [wout,mx,mn]<;>(repeat' split)<;>intro k'<;>first | exact ZlV (by omega) (by omega) (by omega) | exact ZlV (a:=x.1) (b:=x.2) (by omega) (by omega) (by omega) | exact ZlV (a:=y.1) (b:=y.2) (by omega) (by omega) (by omega)
theorem ZXh {x:I} {m:Int} (hx:isB x=true) (hm:1≤m∧m≤2147483648) (h:empB (mSpan x (0,m - 1))=false):isB (mSpan x (0,m - 1))=true:=
 Zod hx (ZlV (by omega) (by omega) (by omega)) h
variable {u:U} {t n:Int} {e:E} {l:List En} {c:C}
theorem ZDL (he:envOK u t e) {b:Bool} {V G A:List I} {m y:Int} (hV:V.length=e.2.1.length) (hG:G.length=e.2.2.1.length) (hA:A.length=e.2.2.2.1.length)
  (v:∀ x∈V,isB x=true∧empB x=false) (g:∀ x∈G,isB x=true∧empB x=false) (a:∀ x∈A,isB x=true∧empB x=false) (hm:0≤m∧m<2147483648) (hy:0≤y∧y<2147483648):envOK u t (b,V,G,A,m,y):=by
 obtain ⟨c,hc,hl⟩:=he.c
 refine ⟨⟨c,hc,by simp only [hV];exact hl⟩,by simp only [hG];exact he.g,by simp only [hA];exact he.a,hm,hy,fun x hx=>?_⟩
 simp only [List.mem_append] at hx
 rcases hx with (k | k) | k
 ·exact v x k
 ·exact g x k
 ·exact a x k
theorem envV (he:envOK u t e):∀ x∈e.2.1,isB x=true∧empB x=false:=fun x k=>he.v x (by simp [k])
theorem envG (he:envOK u t e):∀ x∈e.2.2.1,isB x=true∧empB x=false:=fun x k=>he.v x (by simp [k])
theorem envA (he:envOK u t e):∀ x∈e.2.2.2.1,isB x=true∧empB x=false:=fun x k=>he.v x (by simp [k])
theorem ZPg {L:List I} (h:∀ x∈L,isB x=true∧empB x=false) (i:Nat) {v:I} (hv:isB v=true∧empB v=false):∀ x∈L.set i v,isB x=true∧empB x=false:=fun x k=>by
 rcases List.mem_or_eq_of_mem_set k with k | rfl
 ·exact h x k
 ·exact hv
theorem Zfp (he:envOK u t e) (T:Int) {v:I} (hv:isB v=true∧empB v=false):envOK u t (setE e T v):=
 ZDL he (by simp) rfl rfl (ZPg (envV he) _ hv) (envG he) (envA he) he.must he.may
theorem ZW6 {d:I} (hd:isB d=true∧empB d=false) (hl:∀ x∈l,entOK x) (ar:Bool) (g h:Int):isB (readV d l t ar g h)=true∧empB (readV d l t ar g h)=false:=
 ⟨ZkA hd.1 (ZU8 hl),(Zem (QK.2 (.inr (ZqS hd.2))) hd.2).2⟩
end
section
open Go.Proofs Go.Proofs.YtbdcblpjemmipaaGreat
def ZpY (a0:List I) (a1:Int):Option I:=
 bif decide (a1<(↑a0.length:Int)) then bif decide (0≤a1) then optC a0[a1.toNat]? none fun d3=>some (d3.1,d3.2) else none
 else some (1,0)
def Zam (x:(List I)×(Int×Unit)):Option I:=ZpY x.1 x.2.1
end
def leR (a b:List I):Prop:=a.length=b.length∧∀ (i:Nat) (x y:I),a[i]? = some x→b[i]? = some y→leqB x y=true
structure leE (x y:E):Prop where
 on:y.1=true
 v:leR x.2.1 y.2.1
 g:leR x.2.2.1 y.2.2.1
 a:leR x.2.2.2.1 y.2.2.2.1
 must:subB y.2.2.2.2.1 x.2.2.2.2.1
 may:subB x.2.2.2.2.2 y.2.2.2.2.2
def leO (x y:E):Prop:=x.1=true→leE x y
def okB (n:Int):Prop:=0≤n∧n<2147483648
theorem ZWk (m:Int):0≤bitV m∧bitV m<2147483648:=by
 obtain ⟨k,h1,h2,_⟩:=ZFq m
 omega
theorem ZrA (s m:Int) (hs:okB s):okB (woI s m)∧∀ i,(woI s m).toNat.testBit i=(s.toNat.testBit i && !(bitV m).toNat.testBit i):=by
 unfold okB at *
 have hb:=ZWk m
 obtain ⟨r,h1,h2,h3⟩:=ZNk (a:=s.toNat) (b:=(bitV m).toNat) (by omega) (by omega)
 have e1:((s.toNat:Nat):Int)=s:=by omega
 have e2:(((bitV m).toNat:Nat):Int)=bitV m:=by omega
 rw [e1,e2] at h1
 unfold woI
 rw [h1]
 refine ⟨by omega,fun i=>?_⟩
 rw [Int.toNat_natCast]
 exact h3 i
theorem Zrz (s m:Int) (hs:okB s):okB (wiI s m)∧∀ i,(wiI s m).toNat.testBit i=(s.toNat.testBit i||(bitV m).toNat.testBit i):=by
 unfold okB at *
 have hb:=ZWk m
 unfold wiI
 have:s.toNat ||| (bitV m).toNat<2 ^ 31:=Nat.or_lt_two_pow (by omega) (by omega)
 refine ⟨by omega,fun i=>?_⟩
 rw [Int.toNat_natCast,Nat.testBit_or]
section
open Go.Proofs
structure outOK (u:U) (t n:Int) (e:E) (o:O):Prop where
 nx:o.1.1=true→envOK u t o.1
 el:o.2.1.1=true→envOK u t o.2.1
 off:e.1=false→o=(offE,offE,[],[],[])
 al:o.2.2.1.length≤2∧∀ x∈o.2.2.1,x≠0
 st:o.2.2.2.1.length≤1∧∀ x∈o.2.2.2.1,entOK x∧x.1=t
 ac:o.2.2.2.2.length≤1∧∀ x∈o.2.2.2.2,x.1=t∧x.2.1=n∧x.2.2.2.2.2=e.2.2.2.2.1
section
variable {u:U} {t n:Int} {e:E} {l:List En} {c:C}
theorem Zba:offE.1=true→envOK u t offE:=fun h=>nomatch h
theorem Zze {b:Bool} {x:E} (h:b=false→x.1=true→envOK u t x):(bif b then offE else x).1=true→envOK u t (bif b then offE else x):=by
 cases b
 ·exact h rfl
 ·exact fun k=>nomatch k
theorem bif_ok' {b:Bool} {x:E} (h:b=true→envOK u t x):(bif b then x else offE).1=true→envOK u t (bif b then x else offE):=by
 cases b
 ·exact fun k=>nomatch k
 ·exact fun _=>h rfl
theorem Zhi (he:e.1=true) {x y:E} {al:List Int} {st:List En} {ac:List Ac} (hx:x.1=true→envOK u t x) (hy:y.1=true→envOK u t y) (ha:al.length≤2∧∀ x∈al,x≠0)
  (hs:st.length≤1∧∀ x∈st,entOK x∧x.1=t) (hc:ac.length≤1∧∀ x∈ac,x.1=t∧x.2.1=n∧x.2.2.2.2.2=e.2.2.2.2.1):outOK u t n e (x,y,al,st,ac):=
 ⟨hx,hy,fun k=>by rw [he] at k;(cases k),ha,hs,hc⟩
theorem al0:([]:List Int).length≤2∧∀ x∈([]:List Int),x≠0:=⟨by decide,fun x k=>nomatch k⟩
theorem al1 (b:Bool) {k:Int} (hk:k≠0):(bif b then [k] else []).length≤2∧∀ x∈(bif b then [k] else []),x≠0:=by
 cases b
 ·exact al0
 ·exact ⟨by simp,fun x h=>by rw [List.mem_singleton.1 h];exact hk⟩
theorem al1' (b:Bool) {k:Int} (hk:k≠0):(bif b then [] else [k]).length≤2∧∀ x∈(bif b then [] else [k]),x≠0:=by
 cases b
 ·exact ⟨by simp,fun x h=>by rw [List.mem_singleton.1 h];exact hk⟩
 ·exact al0
theorem st0:([]:List En).length≤1∧∀ x∈([]:List En),entOK x∧x.1=t:=⟨by decide,fun x k=>nomatch k⟩
theorem st1 {d:En} (h:entOK d) (k:d.1=t):[d].length≤1∧∀ x∈[d],entOK x∧x.1=t:=⟨by simp,fun x q=>by rw [List.mem_singleton.1 q];exact ⟨h,k⟩⟩
theorem ac0 {m:Int}:([]:List Ac).length≤1∧∀ x∈([]:List Ac),x.1=t∧x.2.1=n∧x.2.2.2.2.2=m:=⟨by decide,fun x k=>nomatch k⟩
theorem ac1 {m:Int} {a:Bool} {g:Int} {w:Bool}:[((t,n,a,g,w,m):Ac)].length≤1∧∀ x∈[((t,n,a,g,w,m):Ac)],x.1=t∧x.2.1=n∧x.2.2.2.2.2=m:=⟨by simp,fun x q=>by rw [List.mem_singleton.1 q];exact ⟨rfl,rfl,rfl⟩⟩
theorem ZXg (he:envOK u t e) {x y:I} (hx:isB x=true∧empB x=false) (hy:isB y=true∧empB y=false) (X Y r:Int):(sideV e X Y r x y).1=true→envOK u t (sideV e X Y r x y):=by
 have hr:=Z1I r hx.1 hy.1 hx.2 hy.2
 unfold sideV
 cases X==Y
 ·simp only [cond_false]
  exact Zze fun h1=>Zze fun h2 _=>Zfp (Zfp he X ⟨hr.1,h1⟩) Y ⟨hr.2,h2⟩
 ·simp only [cond_true]
  exact Zze fun h _=>Zfp (Zfp he X ⟨Zod hr.1 hr.2 h,h⟩) Y ⟨Zod hr.1 hr.2 h,h⟩
theorem Zg2 {p q:Option O} {v:O} {R:O→Prop} (h1:∃ o,p=some o∧q=some o∧Zbb o) (h2:p=some v) (h3:R v):∃ o,p=some o∧q=some o∧R o∧Zbb o:=by
 obtain ⟨o,k1,k2,k3⟩:=h1
 rw [h2] at k1
 cases k1
 exact ⟨v,h2,k2,h3,k3⟩
theorem Z0U (hu:unitOK u) (ht:0≤t) (hl:tabOK l) (hn:l.length≤1000) (he:e.1=true→envOK u t e) (h1:0≤n) (hc:u.2.2.2[t.toNat]? = some c) (h2:n<(c.2.length:Int)) :
  ∃ o,Za7 u t n e l=some o∧Zkw u t n e l=some o∧outOK u t n e o∧Zbb o:=by
 obtain ⟨a,ga⟩:=ZE c.2 n ⟨h1,h2⟩
 cases he1:e.1
 ·obtain ⟨on,V,G,A,must,may⟩:=e
  cases he1
  have e0:decide (0≤t)=true:=decide_eq_true ht
  have e1:decide (0≤n)=true:=decide_eq_true h1
  refine ⟨((Bool.false,[],[],[],0,0),(Bool.false,[],[],[],0,0),[],[],[]),?_,rfl,⟨Zba,Zba,fun _=>rfl,al0,st0,ac0⟩,⟨⟨by decide,by decide,by decide⟩,⟨by decide,by decide,by decide⟩,by decide,by decide,by decide⟩⟩
  unfold Za7
  rw [e0,hc,e1,cond_true,Zb,cond_true,ga,Zb]
  rfl
 have hE:=he he1
 have ha:=(hu.ts c (List.mem_of_getElem? hc)).a a (List.mem_of_getElem? ga)
 rw [ZS2 u t n e l c a ht hc h1 ga he1,Z4a u t n e l c a ht hc h1 ga he1]
 have hle:=hl.e
 obtain ⟨cc,hc',hv⟩:=hE.c
 obtain rfl:cc=c:=by rw [hc] at hc';exact (Option.some.inj hc').symm
 have vx:∀ {X:Int},0≤X∧X<cc.1→∃ x,e.2.1[X.toNat]? = some x∧isB x=true∧empB x=false:=fun {X} h=>by
  obtain ⟨x,gx⟩:=ZE e.2.1 X (by omega)
  exact ⟨x,gx,envV hE x (List.mem_of_getElem? gx)⟩
 have gx:∀ {G:Int},0≤G∧G<(u.1.length:Int)→∃ x,e.2.2.1[G.toNat]? = some x∧isB x=true∧empB x=false:=fun {G} h=>by
  obtain ⟨x,gx⟩:=ZE e.2.2.1 G (by rw [hE.g];exact h)
  exact ⟨x,gx,envG hE x (List.mem_of_getElem? gx)⟩
 have ax:∀ {G:Int},0≤G∧G<(u.2.1.length:Int)→∃ x m,e.2.2.2.1[G.toNat]? = some x∧(isB x=true∧empB x=false)∧u.2.1[G.toNat]? = some m∧1≤m∧m≤2147483648:=fun {G} h=>by
  obtain ⟨x,gx⟩:=ZE e.2.2.2.1 G (by rw [hE.a];exact h)
  obtain ⟨m,gm⟩:=ZE u.2.1 G h
  have:=hu.ars m (List.mem_of_getElem? gm)
  exact ⟨x,m,gx,envA hE x (List.mem_of_getElem? gx),gm,this.1,by omega⟩
 have hb:=hE.must
 have hy:=hE.may
 obtain ⟨k,T,X,Y,G,N,op,nx,el⟩:=a
 have k1:1≤k:=ha.k1
 have k2:k≤14:=ha.k2
 have hk:k=1∨k=2∨k=3∨k=4∨k=5∨k=6∨k=7∨k=8∨k=9∨k=10∨k=11∨k=12∨k=13∨k=14:=by omega
 rcases hk with rfl | rfl | rfl | rfl | rfl | rfl | rfl | rfl | rfl | rfl | rfl | rfl | rfl | rfl
 ·have hf:=W9.1 ha.n
  refine Zg2 (Z4K u t n e l cc T X Y G N op nx el ht hu hl hn hE hc ha) (ZS7 u t n e l cc T X Y G N op nx el hu hle hn hE hc ha) (Zhi he1 (fun _=>Zfp hE T ⟨ZlV hf.1 (Int.le_refl _) hf.2,Z0 (Int.le_refl _)⟩) Zba al0 st0 ac0)
 ·obtain ⟨x,g1,hx⟩:=vx (Zs.1 ha.h2)
  exact Zg2 (Z4L u t n e l cc T X Y G N op nx el ht hu hl hn hE hc ha) (ZS8 u t n e l cc T X Y G N op nx el g1 hu hle hn hE hc ha) (Zhi he1 (fun _=>Zfp hE T hx) Zba al0 st0 ac0)
 ·exact Zg2 (Z4M u t n e l cc T X Y G N op nx el ht hu hl hn hE hc ha) (ZS9 u t n e l cc T X Y G N op nx el hu hle hn hE hc ha) (Zhi he1 (fun _=>Zfp hE T ⟨by decide,by decide⟩) Zba al0 st0 ac0)
 ·obtain ⟨x,g1,hx⟩:=vx (Zs.1 ha.h2)
  obtain ⟨y,g2,hy⟩:=vx (Zs.1 ha.h3)
  refine Zg2 (Z4N u t n e l cc T X Y G N op nx el ht hu hl hn hE hc ha) (ZTa u t n e l cc T X Y G N op nx el g1 g2 hu hle hn hE hc ha) (Zhi he1 (Zze fun h _=>Zfp hE T ⟨Z2D op hx.1,h⟩) Zba ?_ st0 ac0)
  cases (doI op x y).2.1<;>cases (doI op x y).2.2<;>exact ⟨by decide,by decide⟩
 ·obtain ⟨x,g1,hx⟩:=gx (Zs.1 ha.h4)
  exact Zg2 (Z4O u t n e l cc T X Y G N op nx el ht hu hl hn hE hc ha) (ZTb u t n e l cc T X Y G N op nx el g1 hu hle hn hE hc ha) (Zhi he1 (fun _=>Zfp hE T (ZW6 hx hle _ _ _)) Zba al0 st0 ac1)
 ·obtain ⟨x,g1,hx⟩:=vx (Zs.1 ha.h2)
  exact Zg2 (Z4P u t n e l cc T X Y G N op nx el ht hu hl hn hE hc ha) (ZTc u t n e l cc T X Y G N op nx el g1 hu hle hn hE hc ha)
   (Zhi he1 (fun _=>ZDL hE rfl (by simp) rfl (envV hE) (ZPg (envG hE) _ hx) (envA hE) hb hy) Zba al0 (st1 ⟨hx.1,hx.2,hb⟩ rfl) ac1)
 ·obtain ⟨x,g1,hx⟩:=vx (Zs.1 ha.h2)
  obtain ⟨d,m,g2,hd,gm,hm⟩:=ax (Zs.1 ha.h4)
  exact Zg2 (Z4Q u t n e l cc T X Y G N op nx el ht hu hl hn hE hc ha) (ZTd u t n e l cc T X Y G N op nx el g1 gm g2 hu hle hn hE hc ha)
   (Zhi he1 (Zze fun h _=>Zfp (Zfp hE X ⟨ZXh hx.1 hm h,h⟩) T (ZW6 hd hle _ _ _)) Zba (al1' _ (by decide)) st0 ac1)
 ·obtain ⟨x,g1,hx⟩:=vx (Zs.1 ha.h2)
  obtain ⟨y,g3,hy2⟩:=vx (Zs.1 ha.h3)
  obtain ⟨d,m,g2,hd,gm,hm⟩:=ax (Zs.1 ha.h4)
  have hY:0≤Y∧Y<cc.1:=Zs.1 ha.h3
  obtain ⟨y',gy'⟩:=ZE (e.2.1.set X.toNat (mSpan x (0,m - 1))) Y (by rw [List.length_set];omega)
  refine Zg2 (Z4R u t n e l cc T X Y G N op nx el ht hu hl hn hE hc ha) (ZTe u t n e l cc T X Y G N op nx el g1 g3 gm g2 gy' hu hle hn hE hc ha)
   (Zhi he1 (Zze fun h _=>?_) Zba (al1' _ (by decide)) (st1 ⟨hy2.1,hy2.2,hb⟩ rfl) ac1)
  have hs:=ZPg (envV hE) X.toNat (v:=mSpan x (0,m - 1)) ⟨ZXh hx.1 hm h,h⟩
  have hy':=hs y' (List.mem_of_getElem? gy')
  exact ZDL hE (by simp) rfl (by simp) hs (envG hE) (ZPg (envA hE) _ ⟨ZkA hd.1 hy'.1,(Zem (QK.2 (.inr (ZqS hd.2))) hd.2).2⟩) hb hy
 ·refine Zg2 (Z4S u t n e l cc T X Y G N op nx el ht hu hl hn hE hc ha) (ZTf u t n e l cc T X Y G N op nx el hu hle hn hE hc ha)
   (Zhi he1 (Zze fun h _=>?_) Zba (al1 _ (by decide)) st0 ac0)
  have hg:∀ (L:List I) (ar:Bool),(∀ x∈L,isB x=true∧empB x=false)→∀ x∈gmap l t ar e.2.2.2.2.1 G L,isB x=true∧empB x=false:=fun L ar hL x hx=>by
   unfold gmap at hx
   rw [List.mem_mapIdx] at hx
   obtain ⟨i,hi,rfl⟩:=hx
   have:=hL _ (List.getElem_mem hi)
   exact ⟨ZkA this.1 (ZuJ hle),(Zem (QK.2 (.inr (ZqS this.2))) this.2).2⟩
  exact ZDL hE rfl (by simp [gmap]) (by simp [gmap]) (envV hE) (hg _ _ (envG hE)) (hg _ _ (envA hE)) (Zrz _ _ hb).1 (Zrz _ _ hy).1
 ·exact Zg2 (Z4e u t n e l cc T X Y G N op nx el ht hu hl hn hE hc ha) (ZPC u t n e l cc T X Y G N op nx el hu hle hn hE hc ha)
   (Zhi he1 (bif_ok' fun h=>ZDL hE rfl rfl rfl (envV hE) (envG hE) (envA hE) (ZrA _ _ hb).1 (ZrA _ _ hy).1) Zba (al1' _ (by decide)) st0 ac0)
 ·obtain ⟨x,g1,hx⟩:=vx (Zs.1 ha.h2)
  obtain ⟨y,g2,hy⟩:=vx (Zs.1 ha.h3)
  obtain ⟨w,n1⟩:=ZOS op
  exact Zg2 (Z4f u t n e l cc T X Y G N op nx el ht hu hl hn hE hc ha) (ZPD u t n e l cc T X Y G N op nx el g1 g2 n1 hu hle hn hE hc ha)
   (Zhi he1 (ZXg hE hx hy _ _ _) (ZXg hE hx hy _ _ _) al0 st0 ac0)
 ·exact Zg2 (Z4g u t n e l cc T X Y G N op nx el ht hu hl hn hE hc ha) (ZPE u t n e l cc T X Y G N op nx el hu hle hn hE hc ha) (Zhi he1 (fun _=>hE) Zba al0 st0 ac0)
 ·exact Zg2 (Z4h u t n e l cc T X Y G N op nx el ht hu hl hn hE hc ha) (ZPF u t n e l cc T X Y G N op nx el hu hle hn hE hc ha) (Zhi he1 Zba Zba ⟨by decide,by decide⟩ st0 ac0)
 ·exact Zg2 (Z4i u t n e l cc T X Y G N op nx el ht hu hl hn hE hc ha) (ZPG u t n e l cc T X Y G N op nx el hu hle hn hE hc ha) (Zhi he1 Zba Zba al0 st0 ac0)
end
end
section
open Go.Proofs Go.Proofs.YtbdcblpjemmipaaGreat
abbrev KH:=((List En)×Int×Int×Bool×Int×Int×Int×Int)
abbrev Jf:=((List En)×Int×Int×Bool×Int×Int×Int×Int)
def Zbl (s0:List En) (s6 b0:Int) (b0_1:Bool) (b0_2 b0_3 b0_4 b0_5:Int):Option (((List En)×Int×Int×Bool×Int×Int×Int×Int)⊕((List En)×Int×Int×Bool×Int×Int×Int×Int)):=
 bif decide (s6<(↑s0.length:Int)) then
 bif decide (0≤s6) then
 optC s0[s6.toNat]? none fun d10=>
 optC (K8 (d10,(b0,b0_1,b0_2,b0_3,b0_4,b0_5),())) none fun d11=>
 bif decide (d11<0) then some (Sum.inl (s0,IntKind.i64.wrap (s6+1),b0,b0_1,b0_2,b0_3,b0_4,b0_5))
 else some (Sum.inr (s0,s6,b0,b0_1,b0_2,b0_3,b0_4,b0_5))
 else none
 else some (Sum.inr (s0,s6,b0,b0_1,b0_2,b0_3,b0_4,b0_5))
def Zjt:KH→Option (KH⊕Jf):=fun (a,b,c,d,e,f,g,h)=>Zbl a b c d e f g h
def V2 (x:KH):Option Jf:=iterO Zjt Zj x
def ZgH (a0:List En) (a1:En):Option (Int×(Bool×Unit)):=
 optC (V2 (a0,0,a1)) none fun d4=>
 bif decide (d4.2.1<(↑d4.1.length:Int)) then
 bif decide (0≤d4.2.1) then
 optC d4.1[d4.2.1.toNat]? none fun d5=>optC (K8 (d5,d4.2.2,())) none fun d6=>some (d4.2.1,d6==0,PUnit.unit)
 else none
 else some (d4.2.1,false,PUnit.unit)
def K9 (x:(List En)×(En×Unit)):Option (Int×(Bool×Unit)):=ZgH x.1 x.2.1
end
section
open Go.Proofs Go.Proofs.YtbdcblpjemmipaaGreat
abbrev Vm:=((List En)×Int×(List En))
abbrev KC:=(List En)
def ZcO (s1:List En) (s5:Int) (b0:List En):Option (((List En)×Int×(List En))⊕(List En)):=
 bif decide (s5<(↑s1.length:Int)) then
 bif decide (0≤s5) then
 optC s1[s5.toNat]? none fun d5=>
 bif decide (d5.2.2.2.2.1>d5.2.2.2.2.2) then some (Sum.inl (s1,IntKind.i64.wrap (s5+1),b0))
 else
 bif decide (0≤s5) then
 optC s1[s5.toNat]? none fun d6=>
 optC (K9 (b0,d6,())) none fun d7=>
 bif d7.2.1 then
 bif decide (0≤d7.1) then
 optC b0[Int.toNat d7.1]? none fun d8=>
 optC b0[Int.toNat d7.1]? none fun d9=>
 bif decide (0≤s5) then
 optC s1[s5.toNat]? none fun d10=>
 optC (ZD (d9.2.2.2.2,d10.2.2.2.2,())) none fun d11=>
 bif decide (0≤d7.1) then
 optC b0[Int.toNat d7.1]? none fun d12=>
 optC b0[Int.toNat d7.1]? none fun d13=>
 some (Sum.inl (s1,IntKind.i64.wrap (s5+1),b0.set (Int.toNat d7.1) (d13.1,d13.2.1,d13.2.2.1,d13.2.2.2.1,d11)))
 else none
 else none
 else none
 else
 bif decide ((0:Int)≤0∧0≤d7.1∧d7.1≤(↑b0.length:Int)) then
 bif decide (((List.length (α:=I) [])+(List.drop (Int.toNat (0:Int)) (List.take (Int.toNat d7.1) b0)).length+1)*48≤lim) then
 bif decide (0≤s5) then
 optC s1[s5.toNat]? none fun d8=>
 bif decide ((([]++List.drop (Int.toNat (0:Int)) (List.take (Int.toNat d7.1) b0)).length+[d8].length+1)*48≤lim) then
 bif decide (0≤d7.1∧d7.1≤(↑b0.length:Int)∧(↑b0.length:Int)≤(↑b0.length:Int)) then
 bif
 decide
 ((([]++List.drop (Int.toNat (0:Int)) (List.take (Int.toNat d7.1) b0)++[d8]).length+(List.drop (Int.toNat d7.1) (List.take (↑b0.length:Int).toNat b0)).length +
 1) *
 48≤
 lim) then
 some
 (Sum.inl
 (s1,IntKind.i64.wrap (s5+1),
 []++List.drop (Int.toNat (0:Int)) (List.take (Int.toNat d7.1) b0)++[d8]++List.drop (Int.toNat d7.1) (List.take (↑b0.length:Int).toNat b0)))
 else none
 else none
 else none
 else none
 else none
 else none
 else none
 else none
 else some (Sum.inr b0)
def ZmI:Vm→Option (Vm⊕KC):=fun (a,b,c)=>ZcO a b c
def ZgP (x:Vm):Option KC:=iterO ZmI Zj x
def Zfe (a0 a1:List En):Option (List En):=
 bif decide (((List.length (α:=I) [])+a0.length+1)*48≤lim) then optC (ZgP (a1,0,[]++a0)) none fun d4=>some d4 else none
def Zhs (x:((List En)×((List En)×Unit))):Option (List En):=Zfe x.1 x.2.1
end
def Js  (s1:(List En)) (i:Nat) (b0:(List En)) (d:En):Option ((List En)⊕KC):=
 bif decide (d.2.2.2.2.1>d.2.2.2.2.2) then
  some (Sum.inl (b0))
 else optC (K9 (b0,d,())) (none) fun d7=>
  bif d7.2.1 then
  bif decide (0≤d7.1) then
  optC b0[Int.toNat d7.1]? (none) fun d8=>
  optC b0[Int.toNat d7.1]? (none) fun d9=>
  optC (ZD (d9.2.2.2.2,d.2.2.2.2,())) (none) fun d11=>
  bif decide (0≤d7.1) then
  optC b0[Int.toNat d7.1]? (none) fun d12=>
  optC b0[Int.toNat d7.1]? (none) fun d13=>
  some (Sum.inl (b0.set (Int.toNat d7.1) (d13.1,d13.2.1,d13.2.2.1,d13.2.2.2.1,d11)))
 else none
 else none
 else bif decide ((0:Int)≤0∧0≤d7.1∧d7.1≤(↑b0.length:Int)) then
  bif decide (((List.length (α:=I) [])+(List.drop (Int.toNat (0:Int)) (List.take (Int.toNat d7.1) b0)).length+1)*48≤lim) then
  bif decide ((([]++List.drop (Int.toNat (0:Int)) (List.take (Int.toNat d7.1) b0)).length+[d].length+1)*48≤lim) then
  bif decide (0≤d7.1∧d7.1≤(↑b0.length:Int)∧(↑b0.length:Int)≤(↑b0.length:Int)) then
  bif decide ((([]++List.drop (Int.toNat (0:Int)) (List.take (Int.toNat d7.1) b0)++[d]).length+(List.drop (Int.toNat d7.1) (List.take (↑b0.length:Int).toNat b0)).length+1)*48≤lim) then
  some (Sum.inl ([]++List.drop (Int.toNat (0:Int)) (List.take (Int.toNat d7.1) b0)++[d]++List.drop (Int.toNat d7.1) (List.take (↑b0.length:Int).toNat b0)))
 else none
 else none
 else none
 else none
 else none
def Zmd  (s1:(List En)) (b0:(List En)):Option KC:=
 some b0
abbrev ZJa  (s1:(List En)) (i:Nat) (s:(List En)):Vm:=(s1,(i:Int),s)
def Zf2  (s1:(List En)) (s:(List En)):Option KC:=Zl (fun i s d=>Js  s1 i s d) (fun s=>Zmd  s1 s) 0 s1 s
theorem Zum  (s1:(List En)) (s:(List En)) (hl:s1.length<9223372036854775807):ZgP (s1,0,s)=Zf2  s1 s:=by
 unfold ZgP Zf2
 refine Zk s1 (ZJa  s1) _ _ ?_ ?_ s (by unfold Zj;omega)
 ·intro i s d hi hd
  have e1:decide ((i:Int)<(s1.length:Int))=true:=decide_eq_true (by omega)
  have e2:decide (0≤(i:Int))=true:=decide_eq_true (by omega)
  have e3:Int.toNat (i:Int)=i:=Int.toNat_natCast i
  have e4:=Zm hi (Nat.le_of_lt hl)
  show ZcO (s1) ((i:Int)) (s)=upd _ (Js  s1 i s d)
  unfold ZcO Js
  simp only [e1,e2,e3,e4,hd,cond_true,cond_false,Zb,Zv,Zy,Zw,ZB,ZC,Zx]
 ·intro s
  have e1:decide ((s1.length:Int)<(s1.length:Int))=false:=decide_eq_false (by omega)
  show ZcO (s1) ((s1.length:Int)) (s)=_
  unfold ZcO Zmd
  rw [e1]
  rfl
def Z7 (b0:Int) (b0_1:Bool) (b0_2 b0_3 b0_4 b0_5:Int) (s0:List En) (i:Nat)  (d:En):Option (Unit⊕Jf):=
 optC (K8 (d,(b0,b0_1,b0_2,b0_3,b0_4,b0_5),())) (none) fun d11=>
  bif decide (d11<0) then
  some (Sum.inl ())
 else some (Sum.inr (s0,(i:Int),b0,b0_1,b0_2,b0_3,b0_4,b0_5))
def Zd2 (b0:Int) (b0_1:Bool) (b0_2 b0_3 b0_4 b0_5:Int) (s0:List En):Option Jf:=
 some (s0,(s0.length:Int),b0,b0_1,b0_2,b0_3,b0_4,b0_5)
abbrev ZEV (b0:Int) (b0_1:Bool) (b0_2 b0_3 b0_4 b0_5:Int) (s0:List En) (i:Nat) (s:Unit):KH:=(s0,(i:Int),b0,b0_1,b0_2,b0_3,b0_4,b0_5)
def Zrr (b0:Int) (b0_1:Bool) (b0_2 b0_3 b0_4 b0_5:Int) (s0:List En) (s:Unit):Option Jf:=Zl (fun i s d=>Z7 b0 b0_1 b0_2 b0_3 b0_4 b0_5 s0 i  d) (fun s=>Zd2 b0 b0_1 b0_2 b0_3 b0_4 b0_5 s0 ) 0 s0 s
theorem Zrq (b0:Int) (b0_1:Bool) (b0_2 b0_3 b0_4 b0_5:Int) (s0:List En) (s:Unit) (hl:s0.length<9223372036854775807):V2 (s0,0,b0,b0_1,b0_2,b0_3,b0_4,b0_5)=Zrr b0 b0_1 b0_2 b0_3 b0_4 b0_5 s0 s:=by
 unfold V2 Zrr
 refine Zk s0 (ZEV b0 b0_1 b0_2 b0_3 b0_4 b0_5 s0) _ _ ?_ ?_ s (by unfold Zj;omega)
 ·intro i s d hi hd
  have e1:decide ((i:Int)<(s0.length:Int))=true:=decide_eq_true (by omega)
  have e2:decide (0≤(i:Int))=true:=decide_eq_true (by omega)
  have e3:Int.toNat (i:Int)=i:=Int.toNat_natCast i
  have e4:=Zm hi (Nat.le_of_lt hl)
  show Zbl (s0) ((i:Int)) (b0) (b0_1) (b0_2) (b0_3) (b0_4) (b0_5)=upd _ (Z7 b0 b0_1 b0_2 b0_3 b0_4 b0_5 s0 i  d)
  unfold Zbl Z7
  simp only [e1,e2,e3,e4,hd,cond_true,cond_false,Zb,Zv,Zy,Zw,ZB,ZC,Zx]
 ·intro s
  have e1:decide ((s0.length:Int)<(s0.length:Int))=false:=decide_eq_false (by omega)
  show Zbl (s0) ((s0.length:Int)) (b0) (b0_1) (b0_2) (b0_3) (b0_4) (b0_5)=_
  unfold Zbl Zd2
  rw [e1]
  rfl
abbrev Ky:=Int×Bool×Int×Int
def ky (e:En):Ky:=(e.1,e.2.1,e.2.2.1,e.2.2.2.1)
def vl (e:En):I:=e.2.2.2.2
def arrK (b:Bool):Int:=if b=true then 1 else 0
theorem ZWj {a b:Bool}:arrK a=arrK b↔a=b:=by cases a<;>cases b<;>decide
def ltK (a b:Ky):Prop:=a.1<b.1∨a.1=b.1∧(arrK a.2.1<arrK b.2.1∨arrK a.2.1=arrK b.2.1∧(a.2.2.1<b.2.2.1∨a.2.2.1=b.2.2.1∧a.2.2.2<b.2.2.2))
theorem ZLp (a b:En):ordI a b=cmpI a.1 b.1 (cmpI (arrK a.2.1) (arrK b.2.1) (cmpI a.2.2.1 b.2.2.1 (cmpI a.2.2.2.1 b.2.2.2.1 0))):=rfl
theorem Zwo {a b:En}:ordI a b<0↔ltK (ky a) (ky b):=by
 rw [ZLp]
 unfold ltK ky
 simp only
 generalize arrK a.2.1=p
 generalize arrK b.2.1=q
 unfold cmpI
 (repeat' split)<;>omega
theorem Zwn {a b:En}:ordI a b=0↔ky a=ky b:=by
 have h:ky a=ky b↔(a.1=b.1∧arrK a.2.1=arrK b.2.1∧a.2.2.1=b.2.2.1∧a.2.2.2.1=b.2.2.2.1):=by
  simp only [ky,Prod.mk.injEq,ZWj]
 rw [h,ZLp]
 generalize arrK a.2.1=p
 generalize arrK b.2.1=q
 unfold cmpI
 (repeat' split)<;>omega
theorem Zwl {a b c:Ky} (h:ltK a b) (k:ltK b c):ltK a c:=by unfold ltK at *;omega
theorem ZWO {a b:Ky} (h:¬ ltK a b) (k:a≠b):ltK b a:=by
 have e:a=b↔(a.1=b.1∧arrK a.2.1=arrK b.2.1∧a.2.2.1=b.2.2.1∧a.2.2.2=b.2.2.2):=by
  obtain ⟨a1,a2,a3,a4⟩:=a
  obtain ⟨b1,b2,b3,b4⟩:=b
  simp only [Prod.mk.injEq,ZWj]
 rw [Ne,e] at k
 unfold ltK at *;omega
def srt (l:List En):Prop:=l.Pairwise fun a b=>ltK (ky a) (ky b)
theorem ZZp:∀ {l:List En},(∀ (i:Nat) (a b:En),l[i]? = some a→l[i+1]? = some b→ordI a b<0)→srt l
 | [],_=>List.Pairwise.nil
 | [a],_=>List.pairwise_singleton _ _
 | a::b::r,h=>by
  have ih:srt (b::r):=ZZp fun i x y hx hy=>h (i+1) x y hx hy
  have ab:ltK (ky a) (ky b):=Zwo.1 (h 0 a b rfl rfl)
  refine List.pairwise_cons.2 ⟨fun c hc=>?_,ih⟩
  rcases List.mem_cons.1 hc with rfl | hc
  ·exact ab
  ·exact Zwl ab ((List.pairwise_cons.1 ih).1 c hc)
theorem Z0F {l:List En} (h:srt l) (i:Nat) (a b:En) (ha:l[i]? = some a) (hb:l[i+1]? = some b):ordI a b<0:=by
 rw [Zwo]
 obtain ⟨h1,rfl⟩:=List.getElem?_eq_some_iff.1 ha
 obtain ⟨h2,rfl⟩:=List.getElem?_eq_some_iff.1 hb
 exact List.pairwise_iff_getElem.1 h i (i+1) h1 h2 (by omega)
theorem tabOK.srt {l:List En} (h:tabOK l):srt l:=ZZp h.s
theorem ZT0 {l:List En} (he:∀ x∈l,entOK x) (hs:srt l):ZD9 l=true:=by
 unfold ZD9
 rw [ZvJ]
 intro j d hd
 have e:=he d (List.mem_of_getElem? hd)
 unfold Zy4 entB
 rw [e.v,e.n,decide_eq_false (show ¬ d.2.2.2.1<0 by have:=e.h;omega),decide_eq_false (show ¬ d.2.2.2.1≥2147483648 by have:=e.h;omega),Nat.zero_add]
 simp only [Bool.not_false,Bool.and_self,Bool.true_and]
 by_cases hj:j>0
 ·rw [decide_eq_true hj,cond_true]
  have hlt:j<l.length:=(List.getElem?_eq_some_iff.1 hd).1
  rw [List.getElem?_eq_getElem (show j - 1<l.length by omega)]
  simp only [Option.elim_some]
  have:=Z0F hs (j - 1) _ d (List.getElem?_eq_getElem (by omega)) (by rw [show j - 1+1=j by omega];exact hd)
  rw [decide_eq_false (by omega)];rfl
 ·rw [decide_eq_false hj];rfl
def setV (d:En) (v:I):En:=(d.1,d.2.1,d.2.2.1,d.2.2.2.1,v)
def pinT (f:I→I→I) (e:En):List En→List En
 | []=>[e]
 | d::r=>if ordI d e<0 then d::pinT f e r else if ordI d e=0 then setV d (f (vl d) (vl e))::r else e::d::r
def posT (e:En):List En→Nat
 | []=>0
 | d::r=>if ordI d e<0 then posT e r+1 else 0
def fndT (e:En):List En→Bool
 | []=>false
 | d::r=>if ordI d e<0 then fndT e r else ordI d e==0
theorem ZKA (e:En):∀ l,posT e l≤l.length
 | []=>Nat.le_refl _
 | d::r=>by unfold posT;have:=ZKA e r;rw [List.length_cons];split<;>omega
theorem ZFX (e:En):∀ (l:List En) (j:Nat) (d:En),j<posT e l→l[j]? = some d→ordI d e<0
 | [],j,d,h,_=>by simp [posT] at h
 | c::r,j,d,h,hd=>by
  unfold posT at h
  split at h
  ·rename_i hc
   cases j with
   | zero=>cases hd;exact hc
   | succ j=>exact ZFX e r j d (by omega) hd
  ·omega
theorem ZKz {e:En}:∀ {l:List En},srt l→∀ (j:Nat) (d:En),posT e l≤j→l[j]? = some d→¬ ordI d e<0
 | c::r,hs,j,d,h,hd=>by
  have k:=List.pairwise_cons.1 hs
  unfold posT at h
  split at h
  ·cases j with
   | zero=>omega
   | succ j=>exact ZKz k.2 j d (by omega) hd
  ·rename_i hc
   cases j with
   | zero=>cases hd;exact hc
   | succ j=>
    intro q
    rw [Zwo] at q hc
    exact hc (Zwl (k.1 d (List.mem_of_getElem? (l:=r) (i:=j) hd)) q)
theorem ZvZ (e:En):∀ (l:List En),fndT e l=true→∃ d,l[posT e l]? = some d∧ky d=ky e
 | [],h=>nomatch h
 | d::r,h=>by
  unfold fndT at h
  unfold posT
  split
  ·rename_i hc;rw [if_pos hc] at h;exact ZvZ e r h
  ·rename_i hc;rw [if_neg hc] at h;exact ⟨d,rfl,Zwn.1 (beq_iff_eq.1 h)⟩
theorem ZTL (e:En):∀ (l:List En),fndT e l=false→∀ d,l[posT e l]? = some d→¬ ordI d e=0
 | [],h,d,hd=>by simp [posT] at hd
 | c::r,h,d,hd=>by
  unfold fndT at h
  unfold posT at hd
  split at hd
  ·rename_i hc;rw [if_pos hc] at h;exact ZTL e r h d hd
  ·rename_i hc;rw [if_neg hc] at h;cases hd;exact beq_eq_false_iff_ne.1 h
theorem ZLr (f:I→I→I) (e:En):∀ (l:List En),fndT e l=false→pinT f e l=l.take (posT e l)++e::l.drop (posT e l)
 | [],_=>rfl
 | d::r,h=>by
  unfold fndT at h
  unfold pinT posT
  by_cases hc:ordI d e<0
  ·rw [if_pos hc] at h ⊢
   rw [if_pos hc,ZLr f e r h];rfl
  ·rw [if_neg hc] at h ⊢
   rw [if_neg hc,if_neg (beq_eq_false_iff_ne.1 h)];rfl
theorem ZLs (f:I→I→I) (e:En):∀ (l:List En) (d:En),fndT e l=true→l[posT e l]? = some d→pinT f e l=l.set (posT e l) (setV d (f (vl d) (vl e)))
 | [],d,h,_=>nomatch h
 | c::r,d,h,hd=>by
  unfold fndT at h
  unfold posT at hd
  unfold pinT posT
  by_cases hc:ordI c e<0
  ·rw [if_pos hc] at h hd ⊢
   rw [if_pos hc,ZLs f e r d h hd];rfl
  ·rw [if_neg hc] at h hd ⊢
   rw [if_neg hc,if_pos (beq_iff_eq.1 h)]
   cases hd;rfl
theorem ZP8 {f:I→I→I} {e:En}:∀ {l:List En} {x:En},x∈pinT f e l→x∈l∨x=e∨∃ d∈l,ky d=ky e∧x=setV d (f (vl d) (vl e))
 | [],x,h=>.inr (.inl (List.mem_singleton.1 h))
 | d::r,x,h=>by
  unfold pinT at h
  split at h
  ·rcases List.mem_cons.1 h with rfl | h
   ·exact .inl (List.mem_cons_self ..)
   ·rcases ZP8 h with h | h | ⟨c,hc,h⟩
    ·exact .inl (List.mem_cons_of_mem _ h)
    ·exact .inr (.inl h)
    ·exact .inr (.inr ⟨c,List.mem_cons_of_mem _ hc,h⟩)
  ·split at h
   ·rename_i hz
    rcases List.mem_cons.1 h with rfl | h
    ·exact .inr (.inr ⟨d,List.mem_cons_self ..,Zwn.1 hz,rfl⟩)
    ·exact .inl (List.mem_cons_of_mem _ h)
   ·rcases List.mem_cons.1 h with rfl | h
    ·exact .inr (.inl rfl)
    ·exact .inl h
theorem ZW1 (f:I→I→I) (e:En):∀ l,(pinT f e l).length≤l.length+1
 | []=>Nat.le_refl _
 | d::r=>by
  unfold pinT
  have:=ZW1 f e r
  (repeat' split)<;>simp only [List.length_cons]<;>omega
theorem ZYH (d:En) (v:I):ky (setV d v)=ky d:=rfl
theorem ZW2 {f:I→I→I} {e:En}:∀ {l:List En},srt l→srt (pinT f e l)
 | [],_=>List.pairwise_singleton _ _
 | d::r,hs=>by
  have k:=List.pairwise_cons.1 hs
  unfold pinT
  split
  ·rename_i hc
   refine List.pairwise_cons.2 ⟨fun x hx=>?_,ZW2 k.2⟩
   rcases ZP8 hx with h | rfl | ⟨c,hc',_,rfl⟩
   ·exact k.1 x h
   ·exact Zwo.1 hc
   ·rw [ZYH];exact k.1 c hc'
  ·split
   ·exact List.pairwise_cons.2 ⟨fun x hx=>k.1 x hx,k.2⟩
   ·rename_i h1 h2
    rw [Zwo] at h1
    rw [Zwn] at h2
    have hed:=ZWO h1 h2
    refine List.pairwise_cons.2 ⟨fun x hx=>?_,hs⟩
    rcases List.mem_cons.1 hx with rfl | hx
    ·exact hed
    ·exact Zwl hed (k.1 x hx)
section
open Go.Proofs Go.Proofs.YtbdcblpjemmipaaGreat
def Zw2:List Sh:=[.dat (.int .i64)]
def ZAi:List Con:=[]
def ZBl (a0:Int):Option Bool:=
 some (a0 !=a0)
theorem ZLJ (a0:Int):evGX (cxU ZAi [] 40 1048576) keeps 8 186 Zw2 (.dat .bool) ((a0,()):(Int×Unit))=ZBl a0:=by kernel_rfl
def ZN9 (x:Int×Unit):Option Bool:=ZBl x.1
def Zw6:List AV→Prog AV:=conP true Zw2 (.dat .bool) ZN9
theorem ZL9:Zd Tryz.prog 186 Zw6:=Zc (calU ZAi [] 40 1048576 8 186) true (by rfl) (by rfl) (fun x r e=>(Zg _ _ _ _ _ _ _).trans ((ZLJ x.1).trans e)) (.inl rfl)
end
section
open Go.Proofs Go.Proofs.YtbdcblpjemmipaaGreat
def ZtE:List Sh:=[.dat (.int .i64),.dat (.int .i64)]
def ZwF:List Con:=[⟨186,Zw6,ZL9⟩]
def Ziq (a0 a1:Int):Option Int:=
 bif a0 !=a0 then bif a1 !=a1 then some 0 else some (-1)
 else bif a1 !=a1 then some 1 else bif decide (a0<a1) then some (-1) else bif decide (a0>a1) then some 1 else some 0
theorem ZIy (a0 a1:Int):evGX (cxU ZwF [] 40 1048576) keeps 8 205 ZtE (.dat (.int .i64)) ((a0,a1,()):(Int×(Int×Unit)))=Ziq a0 a1:=by kernel_rfl
def Zej (x:Int×(Int×Unit)):Option Int:=Ziq x.1 x.2.1
def ZtJ:List AV→Prog AV:=conP true ZtE (.dat (.int .i64)) Zej
theorem ZJg:Zd Tryz.prog 205 ZtJ:=Zc (calU ZwF [] 40 1048576 8 205) true (by rfl) (by rfl) (fun x r e=>(Zg _ _ _ _ _ _ _).trans ((ZIy x.1 x.2.1).trans e)) (.inl rfl)
end
section
open Go.Proofs Go.Proofs.YtbdcblpjemmipaaGreat
def ZJM:List Sh:=[.dat .bool]
def ZNd:List Con:=[]
def ZFI (a0:Bool):Option Int:=
 bif a0 then some 1 else some 0
theorem ZUU (a0:Bool):evGX (cxU ZNd [] 40 1048576) keeps 8 206 ZJM (.dat (.int .i64)) ((a0,()):(Bool×Unit))=ZFI a0:=by kernel_rfl
def Zx6 (x:Bool×Unit):Option Int:=ZFI x.1
def ZJZ:List AV→Prog AV:=conP true ZJM (.dat (.int .i64)) Zx6
theorem ZVl:Zd Tryz.prog 206 ZJZ:=Zc (calU ZNd [] 40 1048576 8 206) true (by rfl) (by rfl) (fun x r e=>(Zg _ _ _ _ _ _ _).trans ((ZUU x.1).trans e)) (.inl rfl)
end
section
open Go.Proofs Go.Proofs.YtbdcblpjemmipaaGreat
def ZC2:List Sh:=[.dat (.sl (.int .i64))]
def Zmi:Nat→List Nat:=fun c=>bif c.beq 0 then [3,6,7,8] else [2,3]
def Zqs:List Con:=[]
def KQ:StS:=⟨[(3,.int .i64),(6,.sl (.int .i64)),(7,.int .i64),(8,.int .i64)],[],0⟩
def Yi:StS:=⟨[(2,.undef),(3,.int .i64)],[],0⟩
def Yj:StS:=⟨[(2,.int .i64),(3,.int .i64)],[],0⟩
abbrev Kp:=(Int×(List Int)×Int×Int)
def ZqX:StD KQ→Kp:=fun ((a,b,c,d,_),_)=>(a,b,c,d)
def ZjB:Kp→StD KQ:=fun (a,b,c,d)=>((a,b,c,d,()),())
abbrev Q2:=Int
def ZAu (d:StD Yi):Q2:=(d.1.2.1)
def Zgl (x:Q2):StD Yi:=(((),x,()),())
abbrev Q3:=(Int×Int)
def ZAv (d:StD Yj):Q3:=(d.1.1,d.1.2.1)
def Zgm (x:Q3):StD Yj:=((x.1,x.2,()),())
def Zbe (s3:Int) (s6:List Int) (s7 s8:Int):Option ((Int×(List Int)×Int×Int)⊕(Int⊕(Int×Int))):=
 bif decide (s8<s7) then
 bif decide (0≤s8) then
 optC s6[s8.toNat]? none fun d6=>bif d6 !=s3 then some (Sum.inr (Sum.inr (d6,s3))) else some (Sum.inl (s3,s6,s7,IntKind.i64.wrap (s8+1)))
 else none
 else some (Sum.inr (Sum.inl s3))
def Zjl:Kp→Option (Kp⊕(Q2⊕Q3)):=fun (a,b,c,d)=>Zbe a b c d
theorem ZEy (x:Kp):rdX (cxU Zqs [] 40 1048576) keeps 8 ⟨204,18,keeps 204,0⟩ 0 (bodyX 204 0) 0 Zmi (sT KQ (ZjB x)) (sH KQ (ZjB x)) (rdO (fun T h=>(rdS KQ T h).map ZqX) (getOr (getE 2 Yi ZAu) (getE 1 Yj ZAv)))=Zjl x:=by kernel_rfl
def ZbG (x:Kp):Option (Q2⊕Q3):=iterO Zjl Zj x
def Zwp:Nat→Tm→Prog (Nat×Tm):=(varP 0 (fun T h=>(rdS KQ T h).map ZqX) ZbG (fun y=>.alt y (altE 2 Yi Zgl) (altE 1 Yj Zgm)) (fun _ _=>.fail))
def Zt8:Lpc:=⟨204,0,18,(fun base T=>.norm base (Zmi 0) T (Zwp base)),by kernel_rfl,by kernel_rfl,(loopU Zqs [] 40 1048576 8 (keep:=Zmi) (q:=Zwp) (by kernel_rfl) (Zp (s:=KQ) (un:=ZjB) (by rfl) (fun _=>rfl) (ZR (Zi (s:=Yi) (un:=Zgl) (by rfl) (fun _=>rfl)) (Zi (s:=Yj) (un:=Zgm) (by rfl) (fun _=>rfl))) (step:=Zjl) ZEy (fun _ _ e=>⟨_,e⟩) (ZQ (Zh 2 Yi Zgl) (Zh 1 Yj Zgm)) (ZA.fail _ _)))⟩
def Zsz (a0:List Int):Option Int:=
 optC (ZbG (0,a0,(↑a0.length:Int),0)) none fun d3=>Sum.elim (fun e4=>some e4) (fun e4=>some e4.1) d3
theorem ZP9 (a0:List Int):evGX (cxU Zqs [Zt8] 40 1048576) keeps 8 204 ZC2 (.dat (.int .i64)) ((a0,()):((List Int)×Unit))=Zsz a0:=by kernel_rfl
def ZyX (x:(List Int)×Unit):Option Int:=Zsz x.1
def ZDt:List AV→Prog AV:=conP true ZC2 (.dat (.int .i64)) ZyX
theorem ZQM:Zd Tryz.prog 204 ZDt:=Zc (calU Zqs [Zt8] 40 1048576 8 204) true (by rfl) (by rfl) (fun x r e=>(Zg _ _ _ _ _ _ _).trans ((ZP9 x.1).trans e)) (.inl rfl)
end
section
open Go.Proofs Go.Proofs.YtbdcblpjemmipaaGreat
def ZHE:List Sh:=[.dat tEn,.dat tEn]
def ZK8:List Con:=[⟨205,ZtJ,ZJg⟩,⟨206,ZJZ,ZVl⟩,⟨204,ZDt,ZQM⟩]
def Zvs (a0 a1:En):Option Int:=
 optC (Zej (a0.1,a1.1,())) none fun d3=>
 optC (Zx6 (a0.2.1,())) none fun d4=>
 optC (Zx6 (a1.2.1,())) none fun d5=>
 optC (Zej (a0.2.2.1,a1.2.2.1,())) none fun d6=>
 optC (Zej (a0.2.2.2.1,a1.2.2.2.1,())) none fun d7=>
 optC (ZyX ([d3,IntKind.i64.wrap (d4 - d5),d6,d7],())) none fun d8=>some d8
theorem ZSL (a0 a1:En):evGX (cxU ZK8 [] 40 1048576) keeps 8 188 ZHE (.dat (.int .i64)) ((a0,a1,()):(En×(En×Unit)))=Zvs a0 a1:=by kernel_rfl
def ZpL (x:En×(En×Unit)):Option Int:=Zvs x.1 x.2.1
def ZHR:List AV→Prog AV:=conP true ZHE (.dat (.int .i64)) ZpL
theorem ZS1:Zd Tryz.prog 188 ZHR:=Zc (calU ZK8 [] 40 1048576 8 188) true (by rfl) (by rfl) (fun x r e=>(Zg _ _ _ _ _ _ _).trans ((ZSL x.1 x.2.1).trans e)) (.inl rfl)
end
section
open Go.Proofs Go.Proofs.YtbdcblpjemmipaaGreat
abbrev ZBP:Type:=((List En)×Int×Int×Int×Int×Bool×Int×Int×Int×Int×Int×Bool×Int×Int×Int×Int)
abbrev ZBQ:Type:=((List En)×Int×Int×Int×Bool×Int×Int×Int×Int×Int×Bool×Int×Int×Int×Int)
def ZJL:List Sh:=[.dat (.sl tEn),.dat tEn]
def Zpl:Nat→List Nat:=fun c=>bif c.beq 0 then [0,2,4,8,9,10] else [0,2,4,8,9]
def ZvF:List Con:=[⟨188,ZHR,ZS1⟩]
def VU:StS:=⟨[(0,.sl tEn),(2,.clo 188 [] []),(4,.ptr 1 0),(8,.int .i64),(9,.int .i64),(10,.int .i64)],[(0,.box [.int .i64,.bool,.int .i64,.int .i64,.int .i64,.int .i64]),(1,.box [.int .i64,.bool,.int .i64,.int .i64,.int .i64,.int .i64])],2⟩
def Wv:StS:=⟨[(0,.sl tEn),(2,.clo 188 [] []),(4,.ptr 1 0),(8,.int .i64),(9,.int .i64)],[(0,.box [.int .i64,.bool,.int .i64,.int .i64,.int .i64,.int .i64]),(1,.box [.int .i64,.bool,.int .i64,.int .i64,.int .i64,.int .i64])],2⟩
abbrev Za6:=ZBP
def Zt3:StD VU→Za6:=fun ((a,(_,_),_,b,c,d,_),((e,f,g,h,i,j,_),(k,l,m,n,o,p,_),_))=>(a,b,c,d,e,f,g,h,i,j,k,l,m,n,o,p)
def Zni:Za6→StD VU:=fun (a,b,c,d,e,f,g,h,i,j,k,l,m,n,o,p)=>((a,((),()),(),b,c,d,()),((e,f,g,h,i,j,()),(k,l,m,n,o,p,()),()))
abbrev ZeI:=ZBQ
def ZD4:StD Wv→ZeI:=fun ((a,(_,_),_,b,c,_),((d,e,f,g,h,i,_),(j,k,l,m,n,o,_),_))=>(a,b,c,d,e,f,g,h,i,j,k,l,m,n,o)
def Zj2:ZeI→StD Wv:=fun (a,b,c,d,e,f,g,h,i,j,k,l,m,n,o)=>((a,((),()),(),b,c,()),((d,e,f,g,h,i,()),(j,k,l,m,n,o,()),()))
def Zup (s0:List En) (s8 s9 s10 b0:Int) (b0_1:Bool) (b0_2 b0_3 b0_4 b0_5 b1:Int) (b1_1:Bool) (b1_2 b1_3 b1_4 b1_5:Int):Option (ZBP⊕ZBQ):=
 bif decide (s9<s10) then
 bif decide (0≤IntKind.i64.wrap ((IntKind.u64.wrap (IntKind.i64.wrap (s9+s10))).fdiv (2 ^ Min.min (Int.toNat 1) IntKind.u64.bits))) then
 optC s0[(IntKind.i64.wrap ((IntKind.u64.wrap (IntKind.i64.wrap (s9+s10))).fdiv (2 ^ Min.min (Int.toNat 1) IntKind.u64.bits))).toNat]? none fun d18=>
 optC (ZpL (d18,(b1,b1_1,b1_2,b1_3,b1_4,b1_5),())) none fun d19=>
 bif decide (d19<0) then
 some
 (Sum.inl
 (s0,s8,IntKind.i64.wrap (IntKind.i64.wrap ((IntKind.u64.wrap (IntKind.i64.wrap (s9+s10))).fdiv (2 ^ Min.min (Int.toNat 1) IntKind.u64.bits))+1),s10,b0,b0_1,b0_2,
 b0_3,b0_4,b0_5,b1,b1_1,b1_2,b1_3,b1_4,b1_5))
 else
 some
 (Sum.inl
 (s0,s8,s9,IntKind.i64.wrap ((IntKind.u64.wrap (IntKind.i64.wrap (s9+s10))).fdiv (2 ^ Min.min (Int.toNat 1) IntKind.u64.bits)),b0,b0_1,b0_2,b0_3,b0_4,b0_5,b1,
 b1_1,b1_2,b1_3,b1_4,b1_5))
 else none
 else some (Sum.inr (s0,s8,s9,b0,b0_1,b0_2,b0_3,b0_4,b0_5,b1,b1_1,b1_2,b1_3,b1_4,b1_5))
def ZcU:Za6→Option (Za6⊕ZeI):=fun (a,b,c,d,e,f,g,h,i,j,k,l,m,n,o,p)=>Zup a b c d e f g h i j k l m n o p
theorem ZI3 (x:Za6):rdX (cxU ZvF [] 40 1048576) keeps 8 ⟨187,49,keeps 187,1⟩ 0 (bodyX 187 0) 1 Zpl (sT VU (Zni x)) (sH VU (Zni x)) (rdO (fun T h=>(rdS VU T h).map Zt3) (getE 2 Wv ZD4))=ZcU x:=by kernel_rfl
def ZnG (x:Za6):Option ZeI:=iterO ZcU Zj x
def Zz6:Nat→Tm→Prog (Nat×Tm):=(varP 1 (fun T h=>(rdS VU T h).map Zt3) ZnG (altE 2 Wv Zj2) (fun _ _=>.fail))
def Zxw:Lpc:=⟨187,0,49,(fun base T=>.norm base (Zpl 0) T (Zz6 base)),by kernel_rfl,by kernel_rfl,(loopU ZvF [] 40 1048576 8 (keep:=Zpl) (q:=Zz6) (by kernel_rfl) (Zp (s:=VU) (un:=Zni) (by rfl) (fun _=>rfl) (Zi (s:=Wv) (un:=Zj2) (by rfl) (fun _=>rfl)) (step:=ZcU) ZI3 (fun _ _ e=>⟨_,e⟩) (Zh 2 Wv Zj2) (ZA.fail _ _)))⟩
def Zyv (a0:List En) (a1:En):Option (Int×(Bool×Unit)):=
 optC (ZnG (a0,(↑a0.length:Int),0,(↑a0.length:Int),a1.1,a1.2.1,a1.2.2.1,a1.2.2.2.1,a1.2.2.2.2.1,a1.2.2.2.2.2,a1)) none
 fun d4=>
 bif decide (d4.2.2.1<d4.2.1) then
 bif decide (0≤d4.2.2.1) then
 optC d4.1[d4.2.2.1.toNat]? none fun d5=>
 optC (ZpL (d5,d4.2.2.2.2.2.2.2.2.2,())) none fun d6=>some (d4.2.2.1,d6==0,PUnit.unit)
 else none
 else some (d4.2.2.1,false,PUnit.unit)
theorem ZUT (a0:List En) (a1:En):evGX (cxU ZvF [Zxw] 40 1048576) keeps 8 154 ZJL (.tup [.dat (.int .i64),.dat .bool]) ((a0,a1,()):((List En)×(En×Unit)))=Zyv a0 a1:=by kernel_rfl
def Zkd (x:(List En)×(En×Unit)):Option (Int×(Bool×Unit)):=Zyv x.1 x.2.1
def Zzt:List AV→Prog AV:=conP false ZJL (.tup [.dat (.int .i64),.dat .bool]) Zkd
theorem ZKS:Zd Tryz.prog 154 Zzt:=Zc (calU ZvF [Zxw] 40 1048576 8 154) false (by rfl) (by rfl) (fun x r e=>(Zg _ _ _ _ _ _ _).trans ((ZUT x.1 x.2.1).trans e)) (.inr fun _=>rfl)
end
def ZdU (s3:Int) (s6:List Int) (i:Nat)  (d:Int):Option (Unit⊕(Q2⊕Q3)):=
 bif d !=s3 then
  some (Sum.inr (Sum.inr (d,s3)))
 else some (Sum.inl ())
def ZiP (s3:Int) (s6:List Int):Option (Q2⊕Q3):=
 some (Sum.inl s3)
abbrev ZEO (s3:Int) (s6:List Int) (i:Nat) (s:Unit):Kp:=(s3,s6,(s6.length:Int),(i:Int))
def Zjc (s3:Int) (s6:List Int) (s:Unit):Option (Q2⊕Q3):=Zl (fun i s d=>ZdU s3 s6 i  d) (fun s=>ZiP s3 s6 ) 0 s6 s
theorem ZEp (s3:Int) (s6:List Int) (s:Unit) (hl:s6.length<9223372036854775807):ZbG (s3,s6,(s6.length:Int),0)=Zjc s3 s6 s:=by
 unfold ZbG Zjc
 refine Zk s6 (ZEO s3 s6) _ _ ?_ ?_ s (by unfold Zj;omega)
 ·intro i s d hi hd
  have e1:decide ((i:Int)<(s6.length:Int))=true:=decide_eq_true (by omega)
  have e2:decide (0≤(i:Int))=true:=decide_eq_true (by omega)
  have e3:Int.toNat (i:Int)=i:=Int.toNat_natCast i
  have e4:=Zm hi (Nat.le_of_lt hl)
  show Zbe (s3) (s6) ((s6.length:Int)) ((i:Int))=upd _ (ZdU s3 s6 i  d)
  unfold Zbe ZdU
  simp only [e1,e2,e3,e4,hd,cond_true,cond_false,Zb,Zv,Zy,Zw,ZB,ZC,Zx]
 ·intro s
  have e1:decide ((s6.length:Int)<(s6.length:Int))=false:=decide_eq_false (by omega)
  show Zbe (s3) (s6) ((s6.length:Int)) ((s6.length:Int))=_
  unfold Zbe ZiP
  rw [e1]
  rfl
section
open Go.Proofs Go.Proofs.YtbdcblpjemmipaaGreat
def ZDK:Ctx:={ tab:=tab,spec:=fun _=>none,inl:=inl,lps:=fun _ _=>none,fuel:=40 }
def Zhv:List AV→Prog AV:=ZOj 48 tEn
theorem Zp4:Zd Tryz.prog 106 Zhv:=
 ZMo (cx:=ZDK) (cal:=fun _ _=>.fail) (i:=⟨(.sl (.st (.pair (.int .i64) (.pair .bool (.pair (.int .i64) (.pair (.int .i64) (.st (.pair (.int .i64) (.int .i64))))))))),24,83,[],false⟩) (ie:=⟨(.st (.pair (.int .i64) (.pair .bool (.pair (.int .i64) (.pair (.int .i64) (.st (.pair (.int .i64) (.int .i64)))))))),48,0,[(0,1),(1,1),(2,1),(3,1),(4,2)],true⟩) (Zu2 ZAk) Tryz.func106 (ZTW 106 Tryz.f106 rfl).2 (t:=33) (tb:=4) (s0 := "slices.go:355") (s1 := "slices.go:357") (s2 := "slices.go:358") (s3 := "slices.go:362") (by kernel_rfl) (by kernel_rfl) (by kernel_rfl) rfl rfl rfl rfl
end
section
section
variable [RT] {P:Program}
theorem Z1z (v:Value):oneV v=v.oneCell':=by cases v<;>rfl
theorem ZBD (w:World) (dT sT ty elem:TypeId) (k g o dLen dCap:Nat) (a:Addr) (sLen sCap:Nat) (cur:Array Value) (t:TypeId) (cs:List Value)
  (hu:P.underlying dT=some (.slice elem)) (hs:(P.info? elem).map (·.size)=some k)
  (hg:w.heap[g]? = some (.cells cur t (0,0))) (hn:cs.length=Nat.min sLen dLen*k)
  (hsrc:∀ j v,cs[j]? = some v→w.cell? (a.add j)=some v) (hfit:o+cs.length≤cur.size) (h1:∀ v∈cs,oneV v=true) :
  (Builtin.copy_ #[dT,sT] ty #[.slice (some ⟨g,o,none⟩) dLen dCap,.slice (some a) sLen sCap]).run P w =
   .ok (goInt (Nat.min sLen dLen)) (w.setRow g (cur.toList.take o++cs++cur.toList.drop (o+cs.length)).toArray):=by
 have hl:=run_loadCells_list (P:=P) w a cs hsrc
 have hst:=run_storeCells_at P g o t cs 0 cur w hg (by simpa using hfit) (fun v hv=>by rw [← Z1z];exact h1 v hv)
 rw [hn] at hl
 cases hq:P.info? elem with
 | none=>simp [hq] at hs
 | some i=>
  have hi:i.size=k:=by simpa [hq] using hs
  simp [Builtin.copy_,run_underlying hu,Builtin.lenOf,Builtin.firstCells,sizeOf,typeInfo,hq,hi,hl,hst]
end
end
section
open Go.Proofs Go.Shelf Go.RowKit Go.Lib
structure LayI (P:Program):Prop where
 mixed:P.follows .mixedOrders=true
 f155:P.funcs[155]? = some Tryz.f155
 f189:P.funcs[189]? = some Tryz.f189
 t3:P.underlying 3=some (TypeDesc.int IntKind.i64)
 a3:∀ w,(isAgg 3).run P w=.ok false w
 z3:∀ w,(Go.sizeOf 3).run P w=.ok 1 w
 t4:P.underlying 4=some (TypeDesc.bool)
 a4:∀ w,(isAgg 4).run P w=.ok false w
 z4:∀ w,(Go.sizeOf 4).run P w=.ok 1 w
 z83:∀ w,(Go.sizeOf 83).run P w=.ok 6 w
 t33:P.underlying 33=some (TypeDesc.slice 83)
 a33:∀ w,(isAgg 33).run P w=.ok false w
 z33:∀ w,(Go.sizeOf 33).run P w=.ok 1 w
 i83:∃ i z,P.info? 83=some i∧i.zero=some z∧i.size=6∧i.bytes=48∧z.cells.size=6
theorem ZFu:Tryz.f155.ntmps=95:=by kernel_rfl
variable {P:Program}
set_option maxHeartbeats 4000000 in
set_option maxRecDepth 100000 in
theorem ZYE (L:LayI P) (b n c i vb vc:Nat) (vs news:List Value) (vx:Array Value) (et et':TypeId) (w:World) (hi:i<n) (hroom:n+1≤c) (hbig:(n+1)*48≤140737488355328) (hvb:vb≠b)
  (hw:w.heap[b]? = some (.cells vs.toArray et (0,0))) (hvl:vs.length=c*6) (hv:w.heap[vb]? = some (.cells vx et' (0,0))) (hnl:news.length=6) (hnv:∀ (j:Nat) (v:Value),news[j]? = some v→vx[j]? = some v)
  (h1c:∀ v∈vs.take (n*6),oneV v=true) (h1v:∀ v∈news,oneV v=true) :
  Calls P 155 #[.slice (some ⟨b,0,none⟩) n c,.int .i64 i,.slice (some ⟨vb,0,none⟩) 1 vc] w fun e w'=>
   e=.returned (.slice (some ⟨b,0,none⟩) (n+1) c)∧w'=w.drew.setRow b (vs.take (i*6)++news++(vs.drop (i*6)).take ((n - i)*6)++vs.drop ((n+1)*6)).toArray:=by
 have t3:=L.t3;have a3:=L.a3;have z3:=L.z3;have t4:=L.t4;have a4:=L.a4;have z4:=L.z4;have z83:=L.z83;have t33:=L.t33;have a33:=L.a33;have z33:=L.z33
 have u3:=run_underlying L.t3;have u4:=run_underlying L.t4;have u33:=run_underlying L.t33
 have mixed:=L.mixed
 have hz2:¬ ((i:Int)=(n:Int)):=by omega
 have hhead:World.shape? w vb=some (et',vx.size):=by simp [World.shape?,hv]
 have hheadb:World.shape? w b=some (et,vs.toArray.size):=by simp [World.shape?,hw]
 have hov:∀ lb cb,(callFunc 189 #[.slice (some ⟨vb,0,none⟩) 1 vc,.slice (some ⟨b,(i+1)*6,none⟩) lb cb]).run P w=.ok (.value (.bool false)) w:=fun lb cb=>by
  rw [run_callFunc_extern L.f189 (by kernel_rfl) (by kernel_rfl) (by kernel_rfl) (e:=Extern.SlicesOverlaps.overlaps #[33,33] #[4]) (by kernel_rfl),
   Lib.run_overlaps_apart w 33 4 83 L.t33 6 L.z83 ⟨vb,0,none⟩ ⟨b,(i+1)*6,none⟩ 1 vc lb cb hvb et' et vx.size vs.toArray.size hhead hheadb (by simp only [List.size_toArray];omega) (by simp [World.frozen?,hv]) (by simp [World.frozen?,hv])]
  rfl
 have hw1:IntKind.i64.wrap ((i:Int)+1)=(i:Int)+1:=by rw [IntKind.wrap_i64];omega
 have hb1:(0:Int)≤(i:Int)+1:=by omega
 have hb5:(i:Int)+1≤(n:Int)+1:=by omega
 have hin:i≤n:=by omega
 have htn:((i:Int)+1).toNat=i+1:=by omega
 have hb2:¬ (c=i+1):=by omega
 have hb3:(i:Int)≤(n:Int)+1:=by omega
 have hb4:¬ (c=i):=by omega
 obtain ⟨i0,z0,hi0,-,hsz0,-,-⟩:=L.i83
 have hsz:(P.info? 83).map (·.size)=some 6:=by rw [hi0];simp [hsz0]
 have e1:(i+1)*6=i*6+6:=by omega
 have htl:((vs.drop (i*6)).take ((n - i)*6)).length=(n - i)*6:=by rw [List.length_take,List.length_drop];omega
 have hcell:∀ (W:World) (b':Nat) (cs:Array Value) (t':TypeId),W.heap[b']? = some (.cells cs t' (0,0))→∀ o,W.cell? ⟨b',o,none⟩=cs[o]?:=fun W b' cs t' h o=>Zus h o
 have hwd:w.drew.heap[b]? = some (.cells vs.toArray et (0,0)):=hw
 have hcp1:∀ ty dc sc,(Builtin.copy_ #[33,33] ty #[.slice (some ⟨b,(i+1)*6,none⟩) (n - i) dc,.slice (some ⟨b,i*6,none⟩) (n+1 - i) sc]).run P w.drew =
   .ok (goInt ((n - i:Nat):Int)) (w.drew.setRow b (vs.take ((i+1)*6)++(vs.drop (i*6)).take ((n - i)*6)++vs.drop ((i+1)*6+(n - i)*6)).toArray):=fun ty dc sc=>by
  have h:=ZBD w.drew 33 33 ty 83 6 b ((i+1)*6) (n - i) dc ⟨b,i*6,none⟩ (n+1 - i) sc vs.toArray et ((vs.drop (i*6)).take ((n - i)*6)) L.t33 hsz hwd
   (by rw [htl];simp only [Nat.min_def];split<;>omega)
   (fun j v hj=>by
    rw [List.getElem?_take] at hj
    split at hj
    ·rw [Addr.add_lit,hcell _ _ _ _ hwd,List.getElem?_toArray];rwa [List.getElem?_drop] at hj
    ·cases hj)
   (by rw [htl];simp only [List.size_toArray];omega) (fun v hv=>h1c v (by rw [Nat.sub_mul,← List.drop_take] at hv;exact List.mem_of_mem_drop hv))
  have hmin:Nat.min (n+1 - i) (n - i)=n - i:=by simp only [Nat.min_def];split<;>omega
  rw [hmin,htl] at h
  exact h
 obtain ⟨C1,hC1⟩:∃ C1:List Value,C1=vs.take ((i+1)*6)++(vs.drop (i*6)).take ((n - i)*6)++vs.drop ((i+1)*6+(n - i)*6):=⟨_,rfl⟩
 have hC1l:C1.length=c*6:=by
  rw [hC1];simp only [List.length_append,htl,List.length_take,List.length_drop];omega
 have hfin:C1.take (i*6)++news++C1.drop (i*6+6)=vs.take (i*6)++news++(vs.drop (i*6)).take ((n - i)*6)++vs.drop ((n+1)*6):=by
  have h1:C1.take (i*6)=vs.take (i*6):=by
   rw [hC1,List.append_assoc,List.take_append_of_le_length (by rw [List.length_take];omega),List.take_take,Nat.min_eq_left (by omega)]
  have h2:C1.drop (i*6+6)=(vs.drop (i*6)).take ((n - i)*6)++vs.drop ((n+1)*6):=by
   rw [hC1,List.append_assoc,List.drop_append_of_le_length (by rw [List.length_take];omega),List.drop_eq_nil_of_le (by rw [List.length_take];omega),List.nil_append,show (i+1)*6+(n - i)*6=(n+1)*6 by omega]
  rw [h1,h2,← List.append_assoc]
 rw [← hC1] at hcp1
 have hcp2:∀ (W:World),W.heap[b]? = some (.cells C1.toArray et (0,0))→W.heap[vb]? = some (.cells vx et' (0,0))→∀ ty dc,(Builtin.copy_ #[33,33] ty #[.slice (some ⟨b,i*6,none⟩) (n+1 - i) dc,.slice (some ⟨vb,0,none⟩) 1 vc]).run P W =
   .ok (goInt 1) (W.setRow b (C1.take (i*6)++news++C1.drop (i*6+6)).toArray):=fun W hWb hWv ty dc=>by
  have h:=ZBD W 33 33 ty 83 6 b (i*6) (n+1 - i) dc ⟨vb,0,none⟩ 1 vc C1.toArray et news L.t33 hsz hWb
   (by rw [hnl];simp only [Nat.min_def];split<;>omega)
   (fun j v hj=>by rw [Addr.add_lit,hcell _ _ _ _ hWv,Nat.zero_add];exact hnv j v hj)
   (by rw [hnl];simp only [List.size_toArray];omega) h1v
  have hmin:Nat.min 1 (n+1 - i)=1:=by simp only [Nat.min_def];split<;>omega
  rw [hmin,hnl] at h
  exact h
 have hWb:(w.drew.setRow b C1.toArray).heap[b]? = some (.cells C1.toArray et (0,0)):=setRow_heap w.drew b _ C1.toArray et _ hwd
 have hWv:(w.drew.setRow b C1.toArray).heap[vb]? = some (.cells vx et' (0,0)):=by
  simp only [World.setRow,Array.getElem?_modify]
  rw [if_neg (fun e=>hvb e.symm)];exact hv
 rw [← hfin]
 clear e1 hC1 hfin hC1l htl hcell hwd hhead hheadb
 go_enter L.f155,ZFu
 go_wp2_with (simp only [hov])
 go_region_law_o (refine step_copy_runI rfl _ _ 33 33 rfl _ _ (by simp [Act.eval,Act.put]) (by simp [Act.eval,Act.put]) (hcp1 _ _ _) ?_)
 go_wp2_with (at_builtin;refine wpList_copy_runI _ rfl _ _ 33 33 rfl _ _ rfl rfl (hcp2 _ hWb hWv _ _) ?_)
 go_ret
 refine ⟨rfl,?_⟩
 rw [setRow_setRow,List.append_assoc]
set_option maxHeartbeats 4000000 in
set_option maxRecDepth 100000 in
theorem ZPX (L:LayI P) (base:Option Addr) (n c vb vc:Nat) (w w':World) (u:Value)
  (hrun:∀ ty,(Builtin.append_ #[33,33] ty #[.slice base n c,.slice (some ⟨vb,0,none⟩) 1 vc]).run P w=.ok u w') :
  Calls P 155 #[.slice base n c,.int .i64 n,.slice (some ⟨vb,0,none⟩) 1 vc] w fun e w''=>e=.returned u∧w''=w':=by
 have t3:=L.t3;have a3:=L.a3;have z3:=L.z3;have t4:=L.t4;have a4:=L.a4;have z4:=L.z4;have z83:=L.z83;have t33:=L.t33;have a33:=L.a33;have z33:=L.z33
 have u3:=run_underlying L.t3;have u4:=run_underlying L.t4;have u33:=run_underlying L.t33
 have mixed:=L.mixed
 go_enter L.f155,ZFu
 cases base with
 | none=>
  go_wp2_with (at_builtin;refine Lib.wpList_append_run _ rfl _ _ _ _ rfl _ _ rfl rfl _ _ (hrun _) ?_)
  all_goals (go_ret;exact ⟨rfl,rfl⟩)
 | some a=>
  obtain ⟨ab,ao,asp⟩:=a
  go_wp2_with (at_builtin;refine Lib.wpList_append_run _ rfl _ _ _ _ rfl _ _ rfl rfl _ _ (hrun _) ?_)
  all_goals (go_ret;exact ⟨rfl,rfl⟩)
set_option maxHeartbeats 4000000 in
set_option maxRecDepth 100000 in
theorem ZZ6 (L:LayI P) (b n c i vb vc:Nat) (vs news:List Value) (vx:Array Value) (et et':TypeId) (w:World) (hi:i<n) (hnc:n≤c) (hroom:c<n+1) (hbig:(n+1)*48≤140737488355328)
  (hw:w.heap[b]? = some (.cells vs.toArray et (0,0))) (hvl:vs.length=c*6) (hv:w.heap[vb]? = some (.cells vx et' (0,0))) (hnl:news.length=6) (hnv:∀ (j:Nat) (v:Value),news[j]? = some v→vx[j]? = some v)
  (h1c:∀ v∈vs.take (n*6),oneV v=true) (h1v:∀ v∈news,oneV v=true) :
  Calls P 155 #[.slice (some ⟨b,0,none⟩) n c,.int .i64 i,.slice (some ⟨vb,0,none⟩) 1 vc] w fun e w'=>
   ∃ (G:Nat) (rest:List Value),n+1≤G∧rest.length=(G - (n+1))*6∧e=.returned (.slice (some ⟨w.heap.size,0,none⟩) (n+1) G) ∧
    w'.heap=(w.heap.push (.cells (vs.take (i*6)++news++(vs.drop (i*6)).take ((n - i)*6)++rest).toArray 83))∧w'.os=w.os∧w'.tape=w.tape∧w'.output=w.output:=by
 have t3:=L.t3;have a3:=L.a3;have z3:=L.z3;have t4:=L.t4;have a4:=L.a4;have z4:=L.z4;have z83:=L.z83;have t33:=L.t33;have a33:=L.a33;have z33:=L.z33
 have u3:=run_underlying L.t3;have u4:=run_underlying L.t4;have u33:=run_underlying L.t33
 have mixed:=L.mixed
 obtain ⟨i0,z0,hi0,hz0,hsz0,hby0,hzc⟩:=L.i83
 have hz2:¬ ((i:Int)=(n:Int)):=by omega
 have hz3:(c:Int)<(n:Int)+1:=by omega
 have hsz:(P.info? 83).map (·.size)=some 6:=by rw [hi0];simp [hsz0]
 have hbw:b<w.heap.size:=(Array.getElem?_eq_some_iff.1 hw).1
 have hvw:vb<w.heap.size:=(Array.getElem?_eq_some_iff.1 hv).1
 have hkk:(n:Int)+1 - (i:Int)=((n+1 - i:Nat):Int):=by omega
 have hik:i+(n+1 - i)=n+1:=by omega
 have hold:(Builtin.firstCells i0.size i (.slice (some ⟨b,0,none⟩) i c)).run P w.drew=.ok (vs.take (i*6)).toArray w.drew:=by
  rw [hsz0]
  exact Go.Proofs.YtbdcblpjemmipaaGreat.Ex.run_firstCells (P:=P) (w:=w.drew) hw (vs.take (i*6)) (by rw [List.length_take];omega) (fun k hk=>by
   rw [List.length_take] at hk
   rw [Nat.zero_add,List.getElem?_toArray,List.getElem?_take_of_lt (by omega)])
 obtain ⟨G,hG⟩:∃ G,G=grownCap w (n+1) c 83:=⟨_,rfl⟩
 obtain ⟨ROW,hROW⟩:∃ ROW:List Value,ROW=vs.take (i*6)++(Builtin.zeroCells z0.cells (n+1 - i)).toList++(Builtin.zeroCells z0.cells (G - (n+1))).toList:=⟨_,rfl⟩
 have hrz:∀ ty,(Builtin.append_ #[33,3] ty #[.slice (some ⟨b,0,none⟩) i c,.int .i64 ((n:Int)+1 - (i:Int))]).run P w =
   .ok (.slice (some ⟨w.heap.size,0,none⟩) (n+1) G) (w.drew.alloc (.cells ROW.toArray 83)):=fun ty=>by
  have h:=Lib.run_append_grow_zeros w 33 3 ty 83 i0 _ .i64 .i64 L.t33 L.t3 hi0 hz0 (some ⟨b,0,none⟩) i c (vs.take (i*6)) hold (n+1 - i) (by omega) (by omega) (by omega) (by omega) (by rw [hby0];omega) (by rw [hby0,hik];exact growslice_fits hroom hbig)
  rw [hik] at h
  rw [hkk,h,hROW,hG]
  congr 4
  apply Array.ext'
  simp
 have hGn:n+1≤G:=by rw [hG];exact grownCap_ge w _ _ _
 have hzl:∀ k,(Builtin.zeroCells z0.cells k).toList.length=k*6:=fun k=>by rw [Array.length_toList,size_zeroCells,hzc]
 have htk:(vs.take (i*6)).length=i*6:=by rw [List.length_take];omega
 have hRl:ROW.length=G*6:=by rw [hROW];simp only [List.length_append,hzl,htk];omega
 have hRt:ROW.take (i*6)=vs.take (i*6):=by rw [hROW,List.append_assoc,List.take_append_of_le_length (by omega),List.take_take,Nat.min_self]
 have hG63:G≤9223372036854775807:=by
  have:=grownCap_le_maxLen w (n+1) c 83 (by unfold maxLen;omega)
  rw [← hG] at this
  unfold maxLen at this
  omega
 have hGi:¬ (G=i):=by omega
 have hGim:¬ (G=i+1):=by omega
 have hci:¬ (c=i):=by omega
 have hw1:IntKind.i64.wrap ((i:Int)+1)=(i:Int)+1:=by rw [IntKind.wrap_i64];omega
 have hb1:(0:Int)≤(i:Int)+1:=by omega
 have hb5:(i:Int)+1≤(n:Int)+1:=by omega
 have hin:i≤n:=by omega
 have htn:((i:Int)+1).toNat=i+1:=by omega
 have hb3:(i:Int)≤(n:Int):=by omega
 have hb6:(i:Int)≤(n:Int)+1:=by omega
 obtain ⟨R1,hR1⟩:∃ R1:List Value,R1=ROW.take (i*6)++news++ROW.drop (i*6+6):=⟨_,rfl⟩
 have hR1l:R1.length=G*6:=by rw [hR1];simp only [List.length_append,List.length_take,List.length_drop,hnl];omega
 have hcpA:∀ (W:World),W.heap[w.heap.size]? = some (.cells ROW.toArray 83 (0,0))→W.heap[vb]? = some (.cells vx et' (0,0))→∀ ty dc,(Builtin.copy_ #[33,33] ty #[.slice (some ⟨w.heap.size,i*6,none⟩) (n+1 - i) dc,.slice (some ⟨vb,0,none⟩) 1 vc]).run P W =
   .ok (goInt 1) (W.setRow w.heap.size R1.toArray):=fun W hWb hWv ty dc=>by
  have h:=ZBD W 33 33 ty 83 6 w.heap.size (i*6) (n+1 - i) dc ⟨vb,0,none⟩ 1 vc ROW.toArray 83 news L.t33 hsz hWb
   (by rw [hnl];simp only [Nat.min_def];split<;>omega)
   (fun j v hj=>by rw [Addr.add_lit,Zus hWv,Nat.zero_add];exact hnv j v hj)
   (by rw [hnl];simp only [List.size_toArray];omega) h1v
  have hmin:Nat.min 1 (n+1 - i)=1:=by simp only [Nat.min_def];split<;>omega
  rw [hmin,hnl] at h
  rw [hR1];exact h
 obtain ⟨R2,hR2⟩:∃ R2:List Value,R2=R1.take ((i+1)*6)++(vs.drop (i*6)).take ((n - i)*6)++R1.drop ((i+1)*6+(n - i)*6):=⟨_,rfl⟩
 have htl:((vs.drop (i*6)).take ((n - i)*6)).length=(n - i)*6:=by rw [List.length_take,List.length_drop];omega
 have hcpB:∀ (W:World),W.heap[w.heap.size]? = some (.cells R1.toArray 83 (0,0))→W.heap[b]? = some (.cells vs.toArray et (0,0))→∀ ty dc sc,(Builtin.copy_ #[33,33] ty #[.slice (some ⟨w.heap.size,(i+1)*6,none⟩) (n - i) dc,.slice (some ⟨b,i*6,none⟩) (n - i) sc]).run P W =
   .ok (goInt ((n - i:Nat):Int)) (W.setRow w.heap.size R2.toArray):=fun W hWb hWv ty dc sc=>by
  have h:=ZBD W 33 33 ty 83 6 w.heap.size ((i+1)*6) (n - i) dc ⟨b,i*6,none⟩ (n - i) sc R1.toArray 83 ((vs.drop (i*6)).take ((n - i)*6)) L.t33 hsz hWb
   (by rw [htl];simp only [Nat.min_def];split<;>omega)
   (fun j v hj=>by
    rw [List.getElem?_take] at hj
    split at hj
    ·rw [Addr.add_lit,Zus hWv,List.getElem?_toArray];rwa [List.getElem?_drop] at hj
    ·cases hj)
   (by rw [htl];simp only [List.size_toArray];omega) (fun v hv=>h1c v (by rw [Nat.sub_mul,← List.drop_take] at hv;exact List.mem_of_mem_drop hv))
  have hmin:Nat.min (n - i) (n - i)=n - i:=by simp only [Nat.min_def];split<;>omega
  rw [hmin,htl] at h
  rw [hR2];exact h
 have hfin:∃ rest:List Value,rest.length=(G - (n+1))*6∧R2=vs.take (i*6)++news++(vs.drop (i*6)).take ((n - i)*6)++rest:=by
  refine ⟨R1.drop ((i+1)*6+(n - i)*6),by rw [List.length_drop];omega,?_⟩
  rw [hR2]
  have:R1.take ((i+1)*6)=vs.take (i*6)++news:=by
   rw [hR1,hRt,List.take_append_of_le_length (by rw [List.length_append];omega),List.take_of_length_le (by rw [List.length_append];omega)]
  rw [this]
 have hA1:((w.alloc (.cells ROW.toArray 83)).drew).heap[w.heap.size]? = some (.cells ROW.toArray 83 (0,0)):=heap_alloc_new w _
 have hA2:((w.alloc (.cells ROW.toArray 83)).drew).heap[vb]? = some (.cells vx et' (0,0)):=(ZgI w _ vb hvw).trans hv
 have hA3:((w.alloc (.cells ROW.toArray 83)).drew).heap[b]? = some (.cells vs.toArray et (0,0)):=(ZgI w _ b hbw).trans hw
 have hB1:((((w.alloc (.cells ROW.toArray 83)).drew).setRow w.heap.size R1.toArray).drew).heap[w.heap.size]? = some (.cells R1.toArray 83 (0,0)):=setRow_heap _ w.heap.size _ R1.toArray 83 _ hA1
 have hB2:((((w.alloc (.cells ROW.toArray 83)).drew).setRow w.heap.size R1.toArray).drew).heap[b]? = some (.cells vs.toArray et (0,0)):=by
  show (World.setRow _ _ _).heap[b]? = _
  simp only [World.setRow,Array.getElem?_modify]
  rw [if_neg (by omega)];exact hA3
 have hend:((((w.alloc (.cells ROW.toArray 83)).drew).setRow w.heap.size R1.toArray).drew.setRow w.heap.size R2.toArray).heap=w.heap.push (.cells R2.toArray 83):=by
  apply Array.ext_getElem?
  intro k
  show (World.setRow _ _ _).heap[k]? = _
  simp only [World.setRow,Array.getElem?_modify,Array.getElem?_push]
  by_cases hk:w.heap.size=k
  ·subst hk
   rw [if_pos rfl,if_pos rfl]
   show Option.map _ ((World.setRow _ _ _).heap[w.heap.size]?)=_
   simp only [World.setRow,Array.getElem?_modify,if_true]
   rw [hA1];rfl
  ·rw [if_neg hk,if_neg (fun e=>hk e.symm)]
   show (World.setRow _ _ _).heap[k]? = _
   simp only [World.setRow,Array.getElem?_modify,if_neg hk]
   show (w.heap.push _)[k]? = _
   rw [Array.getElem?_push,if_neg (fun e=>hk e.symm)]
 have hcpA':=hcpA _ hA1 hA2
 have hcpB':=hcpB _ hB1 hB2
 clear hcpA hcpB hA1 hA2 hB1 hB2 hkk hik hold hROW hG hRl hRt hR1 hR1l hR2 htl hzl htk hA3
 go_enter L.f155,ZFu
 go_wp2_with (first
  | (at_builtin;refine Lib.wpList_append_run _ rfl _ _ _ _ rfl _ _ rfl rfl _ _ (hrz _) ?_)
  | fail)
 go_region_law_o (refine step_copy_runI rfl _ _ 33 33 rfl (.slice (some ⟨w.heap.size,(i+1)*6,none⟩) (n - i) (G - (i+1))) (.slice (some ⟨b,i*6,none⟩) (n - i) (c - i)) (by simp [Act.eval,Act.put]) (by simp [Act.eval,Act.put]) (hcpB' 3 (G - (i+1)) (c - i)) ?_)
 go_wp2
 go_ret
 obtain ⟨rest,hrl,hfin⟩:=hfin
 exact ⟨G,rest,hGn,hrl,rfl,by rw [← hfin];exact hend,rfl,rfl,rfl⟩
end
section
open Go.Proofs
def ZXT {α:Type}:List α→Option α
 | [x]=>some x
 | _=>none
theorem ZXU {α:Type} {l:List α} {x:α} (h:ZXT l=some x):l=[x]:=by
 unfold ZXT at h
 split at h
 ·cases h;rfl
 ·cases h
def insP (args:List AV):Prog AV:=match args with
 | [.row id,.int .i64 i,.row id2]=>bif Nat.beq id id2 then .fail else .get id fun
  | .row e1 l1=>.opt (castL e1 tEn l1) fun l=>.get id2 fun
   | .row e2 l2=>.opt (castL e2 tEn l2) fun l'=>.opt (ZXT l') fun x=>
    .ite (decide (0≤i∧i≤(l.length:Nat)∧(l.length+2)*48≤lim)) (.del id (.new (.row tEn (l.take i.toNat++x::l.drop i.toNat)) fun id'=>.ret (.row id'))) .fail
   | .box _=>.fail
  | .box _=>.fail
 | _=>.fail
variable {P:Program}
theorem ZTY {S:Stb} {l:List (D tEn)} {x:D tEn} {vs news rest:List Value} (hr:QM S tEn vs.toArray 0 l) (hs:l.length*6≤vs.length) (hn:news.length=6) (h2:QM S tEn news.toArray 0 [x]) {i:Nat} (hi:i≤l.length) :
  QM S tEn (vs.take (i*6)++news++(vs.drop (i*6)).take ((l.length - i)*6)++rest).toArray 0 (l.take i++x::l.drop i):=by
 have h6:(eTy tEn).size=6:=rfl
 have ho:QM S tEn (vs.take (l.length*6)).toArray 0 l:=fun q hq=>by
  obtain ⟨cs,k1,k2,k3⟩:=hr q hq
  refine ⟨cs,k1,fun j hj=>?_,k3⟩
  have:=k2 j hj
  rw [List.getElem?_toArray] at this ⊢
  rw [h6] at *
  rw [← this,List.getElem?_take_of_lt (by omega)]
 have hol:(vs.take (l.length*6)).length=l.length*(eTy tEn).size:=by rw [List.length_take,h6];omega
 have a1:=QM.take ho hol i hi
 have a2:=QM.drop ho hol i hi
 rw [h6,List.take_take,Nat.min_eq_left (by omega)] at a1
 rw [h6,List.drop_take,← Nat.sub_mul] at a2
 have b1:=QM.append a1 (by rw [List.length_take,List.length_take,h6];omega) h2 (by rw [hn];rfl) []
 rw [List.append_nil] at b1
 have b2:=QM.append b1 (by rw [List.length_append,List.length_append,List.length_take,List.length_take,h6,hn,List.length_singleton];omega) a2
  (by rw [List.length_take,List.length_drop,List.length_drop,h6];omega) rest
 rw [List.append_assoc (l.take i)] at b2
 exact b2
theorem ZYF (L:LayI P) (hf:P.funcs[155]? = some Tryz.f155) (hname:(Tryz.f155.name == "runtime.NumGoroutine")=false):Zd P 155 insP:=by
 intro tr args h ft v h' ft' vals hdr S w ok ev hr hm hv hids hO
 have hbody:∃ c,Tryz.f155.body=some c:=⟨_,rfl⟩
 obtain ⟨c0,hb0⟩:=hbody
 refine ⟨fun args w=>MuLone.run_callFunc_enter hf hname hb0 args w,?_⟩
 unfold insP at ev
 split at ev
 case h_2=>exact (Ze ev).elim
 rename_i id i id2
 rcases ZK ev with ⟨_,ev⟩ | ⟨hne,ev⟩
 ·exact (Ze ev).elim
 obtain ⟨b1,hb1,ev⟩:=Qo ev
 split at ev
 case h_2=>exact (Ze ev).elim
 rename_i e1 l1
 obtain ⟨l,h2,ev⟩:=Zu ev
 obtain ⟨he,hl⟩:=KO h2
 subst he
 simp only at hl
 subst hl
 obtain ⟨b2,hb2,ev⟩:=Qo ev
 split at ev
 case h_2=>exact (Ze ev).elim
 rename_i e2 l2
 obtain ⟨l',h3,ev⟩:=Zu ev
 obtain ⟨he,hl⟩:=KO h3
 subst he
 simp only at hl
 subst hl
 obtain ⟨x,h4,ev⟩:=Zu ev
 obtain rfl:=ZXU h4
 rcases Yc ev with ⟨hc,ev⟩ | ⟨_,ev⟩
 case inr=>exact (Ze ev).elim
 obtain ⟨hi0,hi1,hlim⟩:=of_decide_eq_true hc
 obtain ⟨_,ev⟩:=ZvQ ev
 have ev:=ZpR ev
 cases Zt ev
 have hidne:id≠id2:=fun e=>by rw [e,ZuR] at hne;cases hne
 obtain ⟨k,rfl⟩:∃ k:Nat,i=(k:Int):=⟨i.toNat,by omega⟩
 rw [Int.toNat_natCast] at *
 have hk:k≤l1.length:=by omega
 have hlim48:(l1.length+2)*48≤lim:=hlim
 have hbig:(l1.length+1)*48≤140737488355328:=by unfold lim at hlim48;omega
 cases hv with | cons _ _ _ _ hx hvn=>
 cases hvn with | cons _ _ _ _ hx2 hvn=>
 cases hvn with | cons _ _ _ _ hx3 hvn=>
 cases hvn
 cases hx2
 cases hx with | row _ ao len cap hh=>
 cases hx3 with | row _ ao2 len2 cap2 hh2=>
 have br2:=hr.blk id2 _ hb2
 cases br2 with
 | row _ _ vb capv vx etv hhv hcv hwv hlv hsv hrv=>
 rw [hh2] at hhv
 cases hhv
 obtain ⟨news,n1,n2,n3⟩:=hrv.news
 have n1:news.length=6:=n1
 have hnv:∀ (j:Nat) (u:Value),news[j]? = some u→vx[j]? = some u:=fun j u hj=>by
  have:=n2 j (List.getElem?_eq_some_iff.1 hj).1
  rw [Nat.zero_add] at this
  rw [this];exact hj
 have n4:∀ u∈news,oneV u=true:=n3.ones (by rw [n1];rfl)
 have hblk2:blkOf (hdr id2)=some vb:=by
  rw [hh2]
  cases cap2 with
  | zero=>omega
  | succ n=>rfl
 have pdel:=ZqO (tr:=tr) hr hm id _ hb1 S (fun _ _ k=>k) (fun _ _ k=>.inl k)
 have mdel:Vc ok (delB h.blks id):=pdel.ment.mono fun n k=>Zof k
 obtain ⟨inf,z,q1,q4,q2,q3,q5⟩:=L.i83
 have fc:∀ w1:World,w1.heap=w.heap→(Builtin.firstCells inf.size 1 (.slice (some ⟨vb,0,none⟩) 1 cap2)).run P w1=.ok news.toArray w1:=fun w1 hw1=>by
  rw [q2];exact Go.Proofs.YtbdcblpjemmipaaGreat.Ex.run_firstCells (w:=w1) (by rw [hw1];exact hwv) news n1 n2
 have fresh:∀ (w':World) (G:Nat) (cs:List Value),l1.length+1≤G→cs.length=G*6→w'.heap=w.heap.push (.cells cs.toArray 83)→w'.os=w.os→w'.tape=w.tape→w'.output=w.output→QM S tEn cs.toArray 0 (l1.take k++x::l1.drop k)→
   ∃ u hdr' S',Ending.returned (.slice (some ⟨w.heap.size,0,none⟩) (l1.length+1) G)=.returned u∧Post tr ok hdr S h w hdr' S' ⟨(h.c,.row tEn (l1.take k++x::l1.drop k))::delB h.blks id,h.c+1⟩ w'∧VRep hdr' S' (.row h.c) u∧∀ n∈(AV.row h.c).ids,okn ok h.c (h.c+1) n:=by
  intro w' G cs hG hcl hheap hos htape hout hre
  have hll:(l1.take k++x::l1.drop k).length=l1.length+1:=by simp only [List.length_append,List.length_take,List.length_cons,List.length_drop];omega
  have pnew:=post_new' (tr:=tr) pdel.real mdel hO (.row tEn (l1.take k++x::l1.drop k)) (fun n hn=>by cases hn) w' hos htape hout (by rw [hheap,Array.size_push];omega)
   (fun n hn=>by rw [hheap,Array.getElem?_push,if_neg (by omega)]) (.slice (some ⟨w.heap.size,0,none⟩) (l1.length+1) G) (by cases G with | zero=>omega | succ n=>exact .inr rfl)
   (fun hdr' _ g2=>.row tEn _ w.heap.size G cs.toArray 83 (by rw [hll];exact g2) (by omega) (by rw [hheap,Array.getElem?_push,if_pos rfl]) (by rw [hll];exact hG) (by simpa using (show cs.length=G*(eTy tEn).size from hcl)) hre)
  refine ⟨_,_,_,rfl,pdel.trans (pnew.weaken fun _ k=>.inl k),.row _ _ _ _ (VC _ _ _),fun n hn=>?_⟩
  simp [AV.ids] at hn;subst hn;exact .inr ⟨Nat.le_refl _,Nat.lt_succ_self _⟩
 have br:=hr.blk id _ hb1
 cases br with
 | rowNil _ a0 hh'=>
  rw [hh] at hh'
  cases hh'
  obtain rfl:k=0:=by simp at hk;exact hk
  have hfo:(Builtin.firstCells inf.size 0 (.slice ao 0 0)).run P w.drew=.ok ([]:List Value).toArray w.drew:=by
   cases ao<;>simp [Builtin.firstCells,loadCells,loadCellsFrom]
  have hrun:∀ ty,(Builtin.append_ #[33,33] ty #[.slice ao 0 0,.slice (some ⟨vb,0,none⟩) 1 cap2]).run P w=_:=fun ty=>(ZyE (ty:=ty) L.t33 q1 q4 hfo (fc w.drew rfl) (fc w rfl) (by omega) (by rw [q3];simpa using hlim48)).2 (by omega)
  refine (ZPX L ao 0 0 vb cap2 w _ _ hrun).mono ?_
  rintro en w' ⟨rfl,rfl⟩
  have hge:=grownCap_ge w (0+1) 0 83
  refine fresh _ (grownCap w (0+1) 0 83) ([]++news++(Builtin.zeroCells z.cells (grownCap w (0+1) 0 83 - (0+1))).toList) hge ?_ ?_ rfl rfl rfl ?_
  ·have hzc:=size_zeroCells z.cells (grownCap w (0+1) 0 83 - (0+1))
   simp only [List.nil_append,List.length_append,n1,Array.length_toList,hzc,q5];omega
  ·show (w.heap.push _)=_
   congr 2
   apply Array.ext';simp
  ·exact QM.append (S:=S) (l1:=([]:List (D tEn))) (c1:=[]) (fun i hi=>absurd hi (by simp)) (by simp) n3 (by rw [n1];rfl) _
 | row _ _ b cap' vsA et hh' hcap hw hle hs hre=>
  rw [hh] at hh'
  cases hh'
  have hs:vsA.size=cap*6:=hs
  have hblk:blkOf (hdr id)=some b:=by
   rw [hh]
   cases cap with
   | zero=>omega
   | succ n=>rfl
  have hvb:vb≠b:=fun e=>hr.sep id id2 _ _ b hidne hb1 hb2 hblk (by rw [hblk2,e])
  have hwL:w.heap[b]? = some (.cells vsA.toList.toArray et (0,0)):=by simpa using hw
  have hvl:vsA.toList.length=cap*6:=by simpa using hs
  have hreL:QM S tEn vsA.toList.toArray 0 l1:=by simpa using hre
  have inplace:∀ (w':World) (rest:List Value),l1.length+1≤cap→w'.heap[b]? = some (.cells (vsA.toList.take (k*6)++news++(vsA.toList.drop (k*6)).take ((l1.length - k)*6)++rest).toArray et (0,0))→rest.length=(cap - (l1.length+1))*6→
    w'.os=w.os→w'.tape=w.tape→w'.output=w.output→w'.heap.size=w.heap.size→(∀ n,n≠b→w'.heap[n]? = w.heap[n]?)→
   ∃ u hdr' S',Ending.returned (.slice (some ⟨b,0,none⟩) (l1.length+1) cap)=.returned u∧Post tr ok hdr S h w hdr' S' ⟨(h.c,.row tEn (l1.take k++x::l1.drop k))::delB h.blks id,h.c+1⟩ w'∧VRep hdr' S' (.row h.c) u∧∀ n∈(AV.row h.c).ids,okn ok h.c (h.c+1) n:=by
   intro w' rest hroom hheap hrl hos htape hout hsz hoth
   have hll:(l1.take k++x::l1.drop k).length=l1.length+1:=by simp only [List.length_append,List.length_take,List.length_cons,List.length_drop];omega
   have hre2:=ZTY (rest:=rest) hreL (by omega) n1 n3 hk
   refine ⟨_,_,_,rfl,ZCI hr hm hO id (.row tEn (l1.take k++x::l1.drop k)) _ hb1 (fun n hn=>by cases hn) w' b (.slice (some ⟨b,0,none⟩) (l1.length+1) cap) hblk
    (by cases cap with | zero=>omega | succ n=>rfl) hos htape hout hsz hoth
    (fun hdr' _ g2=>.row tEn _ b cap _ et (by rw [hll];exact g2) hcap hheap (by rw [hll];exact hroom) (by
     show _=cap*6
     simp only [List.size_toArray,List.length_append,List.length_take,List.length_drop,n1,hrl];omega) hre2),.row _ _ _ _ (VC _ _ _),fun n hn=>?_⟩
   simp [AV.ids] at hn;subst hn;exact .inr ⟨Nat.le_refl _,Nat.lt_succ_self _⟩
  obtain ⟨olds,o1,o2,o3⟩:=hre.news
  have o1:olds.length=l1.length*6:=o1
  have holds:vsA.toList.take (l1.length*6)=olds:=by
   refine List.ext_getElem? fun q=>?_
   by_cases hq:q<l1.length*6
   ·rw [List.getElem?_take_of_lt hq,Array.getElem?_toList]
    have:=o2 q (by omega)
    rwa [Nat.zero_add] at this
   ·rw [List.getElem?_eq_none (by rw [List.length_take];omega),List.getElem?_eq_none (by omega)]
  have hones:∀ u∈vsA.toList.take (l1.length*6),oneV u=true:=by rw [holds];exact o3.ones o1
  by_cases hkn:k=l1.length
  ·subst hkn
   have hfo:(Builtin.firstCells inf.size l1.length (.slice (some ⟨b,0,none⟩) l1.length cap)).run P w.drew=.ok olds.toArray w.drew:=by
    rw [q2];exact Go.Proofs.YtbdcblpjemmipaaGreat.Ex.run_firstCells (w:=w.drew) hw olds o1 o2
   have hra:=fun ty=>ZyE (ty:=ty) L.t33 q1 q4 hfo (fc w.drew rfl) (fc w rfl) (by omega) (by rw [q3];exact hlim48)
   by_cases hroom:l1.length+1≤cap
   ·obtain ⟨w',g1,a1,a2,a3,a4,a5,a6⟩:=Zeo P b et news w vsA.toList (l1.length*6) 0 hwL (by omega) n4
    simp only [Nat.add_zero] at a6
    have hrun:∀ ty,(Builtin.append_ #[33,33] ty #[.slice (some ⟨b,0,none⟩) l1.length cap,.slice (some ⟨vb,0,none⟩) 1 cap2]).run P w=.ok (.slice (some ⟨b,0,none⟩) (l1.length+1) cap) w':=fun ty=>by
     rw [(hra ty).1 hroom,q2]
     simp only [stAt,ZvH,Nat.zero_add,g1,Result.andThen_ok]
    refine (ZPX L _ _ _ vb cap2 w _ _ hrun).mono ?_
    rintro en w'' ⟨rfl,rfl⟩
    refine inplace _ (vsA.toList.drop (l1.length*6+news.length)) hroom ?_ (by rw [List.length_drop,n1];omega) a1 a2 a3 a4 a5
    rw [a6,Nat.sub_self,Nat.zero_mul,List.take_zero,List.append_nil]
   ·refine (ZPX L _ _ _ vb cap2 w _ _ (fun ty=>(hra ty).2 (by omega))).mono ?_
    rintro en w' ⟨rfl,rfl⟩
    have hge:=grownCap_ge w (l1.length+1) cap 83
    refine fresh _ (grownCap w (l1.length+1) cap 83) (olds++news++(Builtin.zeroCells z.cells (grownCap w (l1.length+1) cap 83 - (l1.length+1))).toList) hge ?_ ?_ rfl rfl rfl ?_
    ·have hzc:=size_zeroCells z.cells (grownCap w (l1.length+1) cap 83 - (l1.length+1))
     simp only [List.length_append,n1,o1,Array.length_toList,hzc,q5];omega
    ·show (w.heap.push _)=_
     congr 2
     apply Array.ext';simp
    ·rw [List.take_length,List.drop_length]
     exact QM.append o3 o1 n3 (by rw [n1];rfl) _
  ·by_cases hroom:l1.length+1≤cap
   ·refine (ZYE L b l1.length cap k vb cap2 vsA.toList news vx et etv w (by omega) hroom hbig hvb hwL hvl hwv n1 hnv hones n4).mono ?_
    rintro en w' ⟨rfl,rfl⟩
    refine inplace _ (vsA.toList.drop ((l1.length+1)*6)) hroom ?_ (by rw [List.length_drop];omega) rfl rfl rfl ?_ ?_
    ·exact setRow_heap w.drew b _ _ et _ hw
    ·simp [World.setRow]
    ·intro n hn
     show (World.setRow _ _ _).heap[n]? = _
     simp only [World.setRow,Array.getElem?_modify]
     rw [if_neg (fun e=>hn e.symm)];rfl
   ·refine (ZZ6 L b l1.length cap k vb cap2 vsA.toList news vx et etv w (by omega) hle (by omega) hbig hwL hvl hwv n1 hnv hones n4).mono ?_
    rintro en w' ⟨G,rest,hG,hrl,rfl,hheap,hos,htape,hout⟩
    exact fresh w' G _ hG (by
     simp only [List.length_append,List.length_take,List.length_drop,n1,hrl];omega) hheap hos htape hout (ZTY hreL (by omega) n1 n3 hk)
end
theorem tyOk (t:TypeId) (i:TInfo) (h:tiL tab t=some i):TyOk Tryz.prog tab t i:=Zu2 ZAk t i h
theorem layI:LayI Tryz.prog:={
 mixed:=mixed
 f155:=Tryz.func155
 f189:=Tryz.func189
 t3:=by kernel_rfl
 a3:=fun w=>(tyOk 3 _ rfl).isAgg w
 z3:=fun w=>(tyOk 3 _ rfl).sizeOf w
 t4:=by kernel_rfl
 a4:=fun w=>(tyOk 4 _ rfl).isAgg w
 z4:=fun w=>(tyOk 4 _ rfl).sizeOf w
 z83:=fun w=>(tyOk 83 _ rfl).sizeOf w
 t33:=by kernel_rfl
 a33:=fun w=>(tyOk 33 _ rfl).isAgg w
 z33:=fun w=>(tyOk 33 _ rfl).sizeOf w
 i83:=by
  obtain ⟨i,z,h1,h2,h3,h4,h5⟩:=(tyOk 83 _ rfl).info
  refine ⟨i,z,h1,h4,h2,h3,?_⟩
  have:=congrArg List.length h5
  rw [Zfh] at this
  exact (by simpa using this:z.cells.size=_) }
def Zf5:List AV→Prog AV:=insP
theorem Zo5:Zd Tryz.prog 155 Zf5:=ZYF layI Tryz.func155 (by kernel_rfl)
section
open Go.Proofs Go.Proofs.YtbdcblpjemmipaaGreat
def ZMn:List Sh:=[.dat (.sl tEn),.dat (.sl tEn)]
def ZsW:Nat→List Nat:=fun c=>bif c.beq 0 then [5,10,11,12] else [5]
def ZyH:List Con:=[⟨106,Zhv,Zp4⟩,⟨153,Yb,VX⟩,⟨154,Zzt,ZKS⟩,⟨155,Zf5,Zo5⟩]
def ZaW:StS:=⟨[(5,.row 0),(10,.sl tEn),(11,.int .i64),(12,.int .i64)],[(0,.row tEn)],1⟩
def ZbB:StS:=⟨[(5,.row 0)],[(0,.row tEn)],1⟩
abbrev ZaL:=((List En)×Int×Int×(List En))
def Zxh:StD ZaW→ZaL:=fun ((_,a,b,c,_),(d,_))=>(a,b,c,d)
def ZpJ:ZaL→StD ZaW:=fun (a,b,c,d)=>(((),a,b,c,()),(d,()))
abbrev Vw:=(List En)
def ZIx (d:StD ZbB):Vw:=(d.2.1)
def Znf (x:Vw):StD ZbB:=(((),()),(x,()))
def Zev (s10:List En) (s11 s12:Int) (b0:List En):Option (((List En)×Int×Int×(List En))⊕(List En)):=
 bif decide (s12<s11) then
 bif decide (0≤s12) then
 optC s10[s12.toNat]? none fun d6=>
 bif decide (d6.2.2.2.2.1>d6.2.2.2.2.2) then some (Sum.inl (s10,s11,IntKind.i64.wrap (s12+1),b0))
 else
 optC (Zkd (b0,d6,())) none fun d7=>
 bif !d7.2.1 then
 bif decide (0≤d7.1∧d7.1≤(↑b0.length:Int)∧(b0.length+2)*48≤lim) then
 some (Sum.inl (s10,s11,IntKind.i64.wrap (s12+1),List.take (Int.toNat d7.1) b0++d6::List.drop (Int.toNat d7.1) b0))
 else none
 else
 bif decide (0≤d7.1) then
 optC b0[Int.toNat d7.1]? none fun d8=>
 optC b0[Int.toNat d7.1]? none fun d9=>
 bif decide (d9.2.2.2.2.1>d9.2.2.2.2.2) then
 bif decide (d6.2.2.2.2.1>d6.2.2.2.2.2) then
 bif decide (0≤d7.1) then
 optC b0[Int.toNat d7.1]? none fun d10=>
 optC b0[Int.toNat d7.1]? none fun d11=>
 some (Sum.inl (s10,s11,IntKind.i64.wrap (s12+1),b0.set (Int.toNat d7.1) (d11.1,d11.2.1,d11.2.2.1,d11.2.2.2.1,1,0)))
 else none
 else
 bif decide (0≤d7.1) then
 optC b0[Int.toNat d7.1]? none fun d10=>
 optC b0[Int.toNat d7.1]? none fun d11=>
 some (Sum.inl (s10,s11,IntKind.i64.wrap (s12+1),b0.set (Int.toNat d7.1) (d11.1,d11.2.1,d11.2.2.1,d11.2.2.2.1,d6.2.2.2.2)))
 else none
 else
 bif decide (d6.2.2.2.2.1>d6.2.2.2.2.2) then
 bif decide (0≤d7.1) then
 optC b0[Int.toNat d7.1]? none fun d10=>
 optC b0[Int.toNat d7.1]? none fun d11=>
 some (Sum.inl (s10,s11,IntKind.i64.wrap (s12+1),b0.set (Int.toNat d7.1) (d11.1,d11.2.1,d11.2.2.1,d11.2.2.2.1,d9.2.2.2.2)))
 else none
 else
 bif decide (d9.2.2.2.2.1>d9.2.2.2.2.2) then
 bif decide (0≤d7.1) then
 optC b0[Int.toNat d7.1]? none fun d10=>
 optC b0[Int.toNat d7.1]? none fun d11=>
 some
 (Sum.inl (s10,s11,IntKind.i64.wrap (s12+1),b0.set (Int.toNat d7.1) (d11.1,d11.2.1,d11.2.2.1,d11.2.2.2.1,d6.2.2.2.2)))
 else none
 else
 bif decide (0≤d7.1) then
 optC b0[Int.toNat d7.1]? none fun d10=>
 optC b0[Int.toNat d7.1]? none fun d11=>
 some
 (Sum.inl
 (s10,s11,IntKind.i64.wrap (s12+1),
 b0.set (Int.toNat d7.1)
 (d11.1,d11.2.1,d11.2.2.1,d11.2.2.2.1,
 if d6.2.2.2.2.1<d9.2.2.2.2.1 then d6.2.2.2.2.1 else d9.2.2.2.2.1,
 if d6.2.2.2.2.2>d9.2.2.2.2.2 then d6.2.2.2.2.2 else d9.2.2.2.2.2)))
 else none
 else none
 else none
 else some (Sum.inr b0)
def Zpz:ZaL→Option (ZaL⊕Vw):=fun (a,b,c,d)=>Zev a b c d
theorem ZL2 (x:ZaL):rdX (cxU ZyH [] 40 1048576) keeps 8 ⟨81,21,keeps 81,0⟩ 0 (bodyX 81 0) 0 ZsW (sT ZaW (ZpJ x)) (sH ZaW (ZpJ x)) (rdO (fun T h=>(rdS ZaW T h).map Zxh) (getE 2 ZbB ZIx))=Zpz x:=by kernel_rfl
def Zkj (x:ZaL):Option Vw:=iterO Zpz Zj x
def ZEo:Nat→Tm→Prog (Nat×Tm):=(varP 0 (fun T h=>(rdS ZaW T h).map Zxh) Zkj (altE 2 ZbB Znf) (fun _ _=>.fail))
def ZBx:Lpc:=⟨81,0,21,(fun base T=>.norm base (ZsW 0) T (ZEo base)),by kernel_rfl,by kernel_rfl,(loopU ZyH [] 40 1048576 8 (keep:=ZsW) (q:=ZEo) (by kernel_rfl) (Zp (s:=ZaW) (un:=ZpJ) (by rfl) (fun _=>rfl) (Zi (s:=ZbB) (un:=Znf) (by rfl) (fun _=>rfl)) (step:=Zpz) ZL2 (fun _ _ e=>⟨_,e⟩) (Zh 2 ZbB Znf) (ZA.fail _ _)))⟩
def Zv4 (a0 a1:List En):Option (List En):=
 bif decide (((List.length (α:=I) [])+a0.length+1)*48≤lim) then optC (Zkj (a1,(↑a1.length:Int),0,[]++a0)) none fun d4=>some d4 else none
theorem ZV3 (a0 a1:List En):evRX (cxU ZyH [ZBx] 40 1048576) keeps 8 81 ZMn tEn ((a0,a1,()):((List En)×((List En)×Unit)))=Zv4 a0 a1:=by kernel_rfl
def ZvG (x:((List En)×((List En)×Unit))):Option (List En):=Zv4 x.1 x.2.1
def ZB4:List AV→Prog AV:=conR false ZMn tEn ZvG
theorem ZMR:Zd Tryz.prog 81 ZB4:=Zkn (calU ZyH [ZBx] 40 1048576 8 81) false (by rfl) (fun x r e=>(ZuE _ _ _ _ _ _ _).trans ((ZV3 x.1 x.2.1).trans e)) (.inr (by rfl))
end
def Zel  (s10:(List En)) (i:Nat) (b0:(List En)) (d:En):Option ((List En)⊕Vw):=
 bif decide (d.2.2.2.2.1>d.2.2.2.2.2) then
  some (Sum.inl (b0))
 else optC (Zkd (b0,d,())) (none) fun d7=>
  bif !d7.2.1 then
  bif decide (0≤d7.1∧d7.1≤(↑b0.length:Int)∧(b0.length+2)*48≤lim) then
  some (Sum.inl (List.take (Int.toNat d7.1) b0++d::List.drop (Int.toNat d7.1) b0))
 else none
 else bif decide (0≤d7.1) then
  optC b0[Int.toNat d7.1]? (none) fun d8=>
  optC b0[Int.toNat d7.1]? (none) fun d9=>
  bif decide (d9.2.2.2.2.1>d9.2.2.2.2.2) then
  bif decide (d.2.2.2.2.1>d.2.2.2.2.2) then
  bif decide (0≤d7.1) then
  optC b0[Int.toNat d7.1]? (none) fun d10=>
  optC b0[Int.toNat d7.1]? (none) fun d11=>
  some (Sum.inl (b0.set (Int.toNat d7.1) (d11.1,d11.2.1,d11.2.2.1,d11.2.2.2.1,1,0)))
 else none
 else bif decide (0≤d7.1) then
  optC b0[Int.toNat d7.1]? (none) fun d10=>
  optC b0[Int.toNat d7.1]? (none) fun d11=>
  some (Sum.inl (b0.set (Int.toNat d7.1) (d11.1,d11.2.1,d11.2.2.1,d11.2.2.2.1,d.2.2.2.2)))
 else none
 else bif decide (d.2.2.2.2.1>d.2.2.2.2.2) then
  bif decide (0≤d7.1) then
  optC b0[Int.toNat d7.1]? (none) fun d10=>
  optC b0[Int.toNat d7.1]? (none) fun d11=>
  some (Sum.inl (b0.set (Int.toNat d7.1) (d11.1,d11.2.1,d11.2.2.1,d11.2.2.2.1,d9.2.2.2.2)))
 else none
 else bif decide (d9.2.2.2.2.1>d9.2.2.2.2.2) then
  bif decide (0≤d7.1) then
  optC b0[Int.toNat d7.1]? (none) fun d10=>
  optC b0[Int.toNat d7.1]? (none) fun d11=>
  some (Sum.inl (b0.set (Int.toNat d7.1) (d11.1,d11.2.1,d11.2.2.1,d11.2.2.2.1,d.2.2.2.2)))
 else none
 else bif decide (0≤d7.1) then
  optC b0[Int.toNat d7.1]? (none) fun d10=>
  optC b0[Int.toNat d7.1]? (none) fun d11=>
  some (Sum.inl (b0.set (Int.toNat d7.1) (d11.1,d11.2.1,d11.2.2.1,d11.2.2.2.1,if d.2.2.2.2.1<d9.2.2.2.2.1 then d.2.2.2.2.1 else d9.2.2.2.2.1,if d.2.2.2.2.2>d9.2.2.2.2.2 then d.2.2.2.2.2 else d9.2.2.2.2.2)))
 else none
 else none
def Zxl  (s10:(List En)) (b0:(List En)):Option Vw:=
 some b0
abbrev ZL8  (s10:(List En)) (i:Nat) (s:(List En)):ZaL:=(s10,(s10.length:Int),(i:Int),s)
def Zpr  (s10:(List En)) (s:(List En)):Option Vw:=Zl (fun i s d=>Zel  s10 i s d) (fun s=>Zxl  s10 s) 0 s10 s
theorem ZLS  (s10:(List En)) (s:(List En)) (hl:s10.length<9223372036854775807):Zkj (s10,(s10.length:Int),0,s)=Zpr  s10 s:=by
 unfold Zkj Zpr
 refine Zk s10 (ZL8  s10) _ _ ?_ ?_ s (by unfold Zj;omega)
 ·intro i s d hi hd
  have e1:decide ((i:Int)<(s10.length:Int))=true:=decide_eq_true (by omega)
  have e2:decide (0≤(i:Int))=true:=decide_eq_true (by omega)
  have e3:Int.toNat (i:Int)=i:=Int.toNat_natCast i
  have e4:=Zm hi (Nat.le_of_lt hl)
  show Zev (s10) ((s10.length:Int)) ((i:Int)) (s)=upd _ (Zel  s10 i s d)
  unfold Zev Zel
  simp only [e1,e2,e3,e4,hd,cond_true,cond_false,Zb,Zv,Zy,Zw,ZB,ZC,Zx]
 ·intro s
  have e1:decide ((s10.length:Int)<(s10.length:Int))=false:=decide_eq_false (by omega)
  show Zev (s10) ((s10.length:Int)) ((s10.length:Int)) (s)=_
  unfold Zev Zxl
  rw [e1]
  rfl
section
open Go.Proofs Go.Proofs.YtbdcblpjemmipaaGreat
def ZHm:List Sh:=[.dat tI,.dat tI,.dat (.sl (.int .i64))]
def ZnY:Nat→List Nat:=fun c=>bif c.beq 0 then [3,6,7,8,9,24,25,26] else [3,6,7,8,9]
def Ztn:List Con:=[⟨153,Yb,VX⟩,⟨111,Zas,ZbV⟩,⟨69,Zzk,ZKO⟩]
def Y2:StS:=⟨[(3,.ptr 0 0),(6,.ptr 1 0),(7,.ptr 2 0),(8,.int .i64),(9,.int .i64),(24,.sl (.int .i64)),(25,.int .i64),(26,.int .i64)],[(0,.box [.int .i64,.int .i64]),(1,.box [.int .i64,.int .i64]),(2,.box [.int .i64,.int .i64])],3⟩
def HI:StS:=⟨[(3,.ptr 0 0),(6,.ptr 1 0),(7,.ptr 2 0),(8,.int .i64),(9,.int .i64)],[(0,.box [.int .i64,.int .i64]),(1,.box [.int .i64,.int .i64]),(2,.box [.int .i64,.int .i64])],3⟩
abbrev YE:=(Int×Int×(List Int)×Int×Int×Int×Int×Int×Int×Int×Int)
def Zr4:StD Y2→YE:=fun ((_,_,_,a,b,c,d,e,_),((f,g,_),(h,i,_),(j,k,_),_))=>(a,b,c,d,e,f,g,h,i,j,k)
def Zlm:YE→StD Y2:=fun (a,b,c,d,e,f,g,h,i,j,k)=>(((),(),(),a,b,c,d,e,()),((f,g,()),(h,i,()),(j,k,()),()))
abbrev JA:=(Int×Int×Int×Int×Int×Int×Int×Int)
def ZCd:StD HI→JA:=fun ((_,_,_,a,b,_),((c,d,_),(e,f,_),(g,h,_),_))=>(a,b,c,d,e,f,g,h)
def ZhO:JA→StD HI:=fun (a,b,c,d,e,f,g,h)=>(((),(),(),a,b,()),((c,d,()),(e,f,()),(g,h,()),()))
def ZbY (s8 s9:Int) (s24:List Int) (s25 s26 b0 b0_1 b1 b1_1 b2 b2_1:Int):Option ((Int×Int×(List Int)×Int×Int×Int×Int×Int×Int×Int×Int)⊕(Int×Int×Int×Int×Int×Int×Int×Int)):=
 bif decide (s26<s25) then
 bif decide (0≤s26) then
 optC s24[s26.toNat]? none fun d13=>
 optC (Zkb ([d13],())) none fun d14=>
 bif !d14 then some (Sum.inl (s8,s9,s24,s25,IntKind.i64.wrap (s26+1),b0,b0_1,b1,b1_1,b2,b2_1))
 else
 bif decide (d13≤b2) then
 bif decide (d13≥b2_1) then
 some (Sum.inl (if d13>s8 then d13 else s8,if d13<s9 then d13 else s9,s24,s25,IntKind.i64.wrap (s26+1),b0,b0_1,b1,b1_1,b2,b2_1))
 else some (Sum.inl (if d13>s8 then d13 else s8,s9,s24,s25,IntKind.i64.wrap (s26+1),b0,b0_1,b1,b1_1,b2,b2_1))
 else
 bif decide (d13≥b2_1) then some (Sum.inl (s8,if d13<s9 then d13 else s9,s24,s25,IntKind.i64.wrap (s26+1),b0,b0_1,b1,b1_1,b2,b2_1))
 else some (Sum.inl (s8,s9,s24,s25,IntKind.i64.wrap (s26+1),b0,b0_1,b1,b1_1,b2,b2_1))
 else none
 else some (Sum.inr (s8,s9,b0,b0_1,b1,b1_1,b2,b2_1))
def ZkX:YE→Option (YE⊕JA):=fun (a,b,c,d,e,f,g,h,i,j,k)=>ZbY a b c d e f g h i j k
theorem ZGm (x:YE):rdX (cxU Ztn [] 40 1048576) keeps 8 ⟨109,64,keeps 109,0⟩ 1 (bodyX 109 1) 0 ZnY (sT Y2 (Zlm x)) (sH Y2 (Zlm x)) (rdO (fun T h=>(rdS Y2 T h).map Zr4) (getE 3 HI ZCd))=ZkX x:=by kernel_rfl
def ZcB (x:YE):Option JA:=iterO ZkX Zj x
def ZxD:Nat→Tm→Prog (Nat×Tm):=(varP 0 (fun T h=>(rdS Y2 T h).map Zr4) ZcB (altE 3 HI ZhO) (fun _ _=>.fail))
def Zwa:Lpc:=⟨109,1,64,(fun base T=>.norm base (ZnY 0) T (ZxD base)),by kernel_rfl,by kernel_rfl,(loopU Ztn [] 40 1048576 8 (keep:=ZnY) (q:=ZxD) (by kernel_rfl) (Zp (s:=Y2) (un:=Zlm) (by rfl) (fun _=>rfl) (Zi (s:=HI) (un:=ZhO) (by rfl) (fun _=>rfl)) (step:=ZkX) ZGm (fun _ _ e=>⟨_,e⟩) (Zh 3 HI ZhO) (ZA.fail _ _)))⟩
def Zvg (a0 a1:I) (a2:List Int):Option I:=
 bif decide (a1.1>a1.2) then some (a0.1,a0.2)
 else
 bif decide (a0.1>a0.2) then some (a1.1,a1.2)
 else
 optC (ZF ([a0,a1],())) none fun d5=>
 optC (ZcB (-2147483648,2147483647,a2,(↑a2.length:Int),0,a0.1,a0.2,0,0,d5)) none fun d6=>
 bif decide (d6.2.2.2.2.2.2.1<d6.2.2.1) then
 bif decide (d6.2.2.2.2.2.2.2>d6.2.2.2.1) then some (d6.1,d6.2.1) else some (d6.1,d6.2.2.2.2.2.2.2)
 else
 bif decide (d6.2.2.2.2.2.2.2>d6.2.2.2.1) then some (d6.2.2.2.2.2.2.1,d6.2.1)
 else some (d6.2.2.2.2.2.2.1,d6.2.2.2.2.2.2.2)
theorem ZSt (a0 a1:I) (a2:List Int):evGX (cxU Ztn [Zwa] 40 1048576) keeps 8 109 ZHm (.dat tI) ((a0,a1,a2,()):(I×(I×((List Int)×Unit))))=Zvg a0 a1 a2:=by kernel_rfl
def Zhr (x:(I×(I×((List Int)×Unit)))):Option I:=Zvg x.1 x.2.1 x.2.2.1
def Zqd:List AV→Prog AV:=conP true ZHm (.dat tI) Zhr
theorem ZwZ:Zd Tryz.prog 109 Zqd:=Zc (calU Ztn [Zwa] 40 1048576 8 109) true (by rfl) (by rfl) (fun x r e=>(Zg _ _ _ _ _ _ _).trans ((ZSt x.1 x.2.1 x.2.2.1).trans e)) (.inl rfl)
end
theorem Z4p (a b:Int):Ziq a b=some (cmpI a b 0):=by
 unfold Ziq cmpI
 simp only [cond_eq_ite,bne_self_eq_false,Bool.false_eq_true,if_false,decide_eq_true_eq]
 (repeat' split)<;>rfl
theorem Z2V (b:Bool):ZFI b=some (arrK b):=by cases b<;>rfl
theorem Z42 (a b c d:Int):Zsz [a,b,c,d]=some (bif a !=0 then a else bif b !=0 then b else bif c !=0 then c else d):=by
 unfold Zsz
 have h:=ZEp 0 [a,b,c,d] () (by simp)
 have e:ZbG (0,[a,b,c,d],(([a,b,c,d]:List Int).length:Int),0)=_:=h
 rw [e]
 unfold Zjc
 simp only [Zl,ZdU,ZiP]
 cases ha:a !=0<;>cases hb:b !=0<;>cases hc:c !=0<;>cases hd:d !=0<;>(try rfl)
 have:d=0:=by simpa using hd
 subst this;rfl
theorem ZMK (a b:En):Zvs a b=some (ordI a b):=by
 unfold Zvs Zej Zx6 ZyX
 simp only [Z4p,Z2V,Zb,Z42]
 congr 1
 rw [ZLp]
 have:IntKind.i64.wrap (arrK a.2.1 - arrK b.2.1)=arrK a.2.1 - arrK b.2.1:=wr (by unfold arrK;split<;>split<;>decide)
 rw [this]
 have ha:arrK a.2.1=0∨arrK a.2.1=1:=by unfold arrK;split<;>simp
 have hb:arrK b.2.1=0∨arrK b.2.1=1:=by unfold arrK;split<;>simp
 generalize arrK a.2.1=p at *
 generalize arrK b.2.1=q at *
 unfold cmpI
 simp only [cond_eq_ite,bne_iff_ne]
 (repeat' split)<;>omega
theorem half (a:Int) (h0:0≤a) (h:a<4611686018427387904):IntKind.i64.wrap ((IntKind.u64.wrap (IntKind.i64.wrap a)).fdiv (2 ^ min (Int.toNat 1) IntKind.u64.bits))=a / 2:=by
 have e1:IntKind.i64.wrap a=a:=wr (by omega)
 have e2:IntKind.u64.wrap a=a:=by
  simp [IntKind.wrap,IntKind.signed,IntKind.bits]
  omega
 have e3:(2:Int) ^ min (Int.toNat 1) IntKind.u64.bits=2:=by decide
 rw [e1,e2,e3,Int.fdiv_eq_ediv_of_nonneg _ (by omega)]
 exact wr (by omega)
theorem ZPT (l:List En) (hs:srt l) (hn:l.length<2305843009213693952) (n b0:Int) (b01:Bool) (b02 b03 b04 b05:Int) (e:En):∀ (k fuel i j:Nat),j - i≤k→k<fuel→i≤posT e l→posT e l≤j→j≤l.length→
  iterO ZcU fuel (l,n,(i:Int),(j:Int),b0,b01,b02,b03,b04,b05,e)=some (l,n,(posT e l:Int),b0,b01,b02,b03,b04,b05,e)
 | k,0,i,j,h1,h2,_,_,_=>absurd h2 (by omega)
 | k,fuel+1,i,j,h1,h2,h3,h4,h5=>by
  rw [iterO]
  simp only [ZcU,Zup]
  by_cases hij:i<j
  ·rw [decide_eq_true (show (i:Int)<(j:Int) by omega)]
   have hh:=half ((i:Int)+(j:Int)) (by omega) (by omega)
   rw [hh,show ((i:Int)+(j:Int)) / 2=(((i+j) / 2:Nat):Int) by omega]
   generalize hm:(i+j) / 2=m
   have hml:m<l.length:=by omega
   rw [decide_eq_true (show (0:Int)≤(m:Int) by omega),Int.toNat_natCast,List.getElem?_eq_getElem hml]
   simp only [cond_true,Zb,ZpL]
   have hd:l[m]? = some l[m]:=List.getElem?_eq_getElem hml
   generalize l[m]=d at hd
   rw [show ((e.1,e.2.1,e.2.2.1,e.2.2.2.1,e.2.2.2.2.1,e.2.2.2.2.2):En)=e from rfl,ZMK]
   simp only [Zb]
   obtain ⟨k',rfl⟩:∃ k',k=k'+1:=⟨k - 1,by omega⟩
   by_cases ho:ordI d e<0
   ·rw [decide_eq_true ho,show IntKind.i64.wrap ((m:Int)+1)=((m+1:Nat):Int) by rw [wr (by omega)];omega]
    have hp:m<posT e l:=by
     by_cases q:posT e l≤m
     ·exact absurd ho (ZKz hs m d q hd)
     ·omega
    exact ZPT l hs hn n b0 b01 b02 b03 b04 b05 e k' fuel (m+1) j (by omega) (by omega) (by omega) h4 h5
   ·rw [decide_eq_false ho]
    have hp:posT e l≤m:=by
     by_cases q:m<posT e l
     ·exact absurd (ZFX e l m d q hd) ho
     ·omega
    exact ZPT l hs hn n b0 b01 b02 b03 b04 b05 e k' fuel i m (by omega) (by omega) h3 hp (by omega)
  ·have:posT e l=i:=by omega
   rw [decide_eq_false (show ¬ (i:Int)<(j:Int) by omega),this]
   rfl
theorem ZWE {e:En} {l:List En} (h:fndT e l=true):posT e l<l.length:=by
 obtain ⟨d,hd,_⟩:=ZvZ e l h
 exact (List.getElem?_eq_some_iff.1 hd).1
theorem ZYC (e:En) (l:List En) (d:En) (hd:l[posT e l]? = some d):fndT e l=(ordI d e==0):=by
 cases h:fndT e l with
 | true=>
  obtain ⟨c,hc,hk⟩:=ZvZ e l h
  rw [hd] at hc;cases hc
  exact (beq_iff_eq.2 (Zwn.2 hk)).symm
 | false=>exact (beq_eq_false_iff_ne.2 (ZTL e l h d hd)).symm
theorem ZOQ (l:List En) (e:En) (hs:srt l) (hn:l.length<2305843009213693952):Zyv l e=some ((posT e l:Int),fndT e l,()):=by
 unfold Zyv
 have h:=ZPT l hs hn (l.length:Int) e.1 e.2.1 e.2.2.1 e.2.2.2.1 e.2.2.2.2.1 e.2.2.2.2.2 e l.length Zj 0 l.length (by omega) (by unfold Zj;omega) (Nat.zero_le _) (ZKA e l) (Nat.le_refl _)
 rw [show ZnG (l,(l.length:Int),0,(l.length:Int),e.1,e.2.1,e.2.2.1,e.2.2.2.1,e.2.2.2.2.1,e.2.2.2.2.2,e)=_ from h]
 simp only [Zb]
 by_cases hp:posT e l<l.length
 ·rw [decide_eq_true (show (posT e l:Int)<(l.length:Int) by omega),decide_eq_true (show (0:Int)≤(posT e l:Int) by omega),Int.toNat_natCast]
  have hd:l[posT e l]? = some l[posT e l]:=List.getElem?_eq_getElem hp
  rw [hd]
  simp only [cond_true,Zb,ZpL,ZMK]
  rw [ZYC e l _ hd]
 ·rw [decide_eq_false (show ¬ (posT e l:Int)<(l.length:Int) by omega)]
  cases hf:fndT e l with
  | true=>exact absurd (ZWE hf) hp
  | false=>rfl
theorem ZRL (e:En) (L:List En):∀ (r:List En) (j:Nat),j+r.length=L.length→
  Zl (fun i s d=>Z7 e.1 e.2.1 e.2.2.1 e.2.2.2.1 e.2.2.2.2.1 e.2.2.2.2.2 L i d) (fun s=>Zd2 e.1 e.2.1 e.2.2.1 e.2.2.2.1 e.2.2.2.2.1 e.2.2.2.2.2 L) j r ()=some (L,((j+posT e r:Nat):Int),e)
 | [],j,h=>by
  show some (L,(L.length:Int),e)=_
  simp only [List.length_nil,Nat.add_zero] at h
  rw [← h];rfl
 | d::r,j,h=>by
  have hb:Z7 e.1 e.2.1 e.2.2.1 e.2.2.2.1 e.2.2.2.2.1 e.2.2.2.2.2 L j d=bif decide (ordI d e<0) then some (.inl ()) else some (.inr (L,(j:Int),e)):=by
   unfold Z7 K8
   simp only [ZlX,Zb]
  unfold posT
  by_cases q:ordI d e<0
  ·rw [decide_eq_true q] at hb
   rw [if_pos q,Qk hb,ZRL e L r (j+1) (by simp only [List.length_cons] at h;omega),show j+(posT e r+1)=j+1+posT e r by omega]
  ·rw [decide_eq_false q] at hb
   rw [if_neg q]
   unfold Zl
   rw [hb]
   rfl
theorem ZFS (l:List En) (e:En) (hl:l.length<9223372036854775807):ZgH l e=some ((posT e l:Int),fndT e l,()):=by
 have h2:=ZRL e l l 0 (by omega)
 rw [Nat.zero_add] at h2
 unfold ZgH
 rw [show V2 (l,0,e)=some (l,(posT e l:Int),e) from (Zrq e.1 e.2.1 e.2.2.1 e.2.2.2.1 e.2.2.2.2.1 e.2.2.2.2.2 l () hl).trans h2]
 simp only [Zb]
 by_cases hp:posT e l<l.length
 ·have hd:l[posT e l]? = some l[posT e l]:=List.getElem?_eq_getElem hp
  rw [decide_eq_true (show (posT e l:Int)<(l.length:Int) by omega),decide_eq_true (show (0:Int)≤(posT e l:Int) by omega),Int.toNat_natCast,hd]
  simp only [cond_true,Zb,K8,ZlX]
  rw [ZYC e l _ hd]
 ·rw [decide_eq_false (show ¬ (posT e l:Int)<(l.length:Int) by omega)]
  cases hf:fndT e l with
  | true=>exact absurd (ZWE hf) hp
  | false=>rfl
def V5 (b0 b0_1 b1 b1_1 b2 b2_1:Int) (s24:List Int) (i:Nat) (s8 s9 d:Int):Option ((Int×Int)⊕JA):=
 optC (Zkb ([d],())) (none) fun d14=>
  bif !d14 then
  some (Sum.inl (s8,s9))
 else bif decide (d≤b2) then
  bif decide (d≥b2_1) then
  some (Sum.inl (if d>s8 then d else s8,if d<s9 then d else s9))
 else some (Sum.inl (if d>s8 then d else s8,s9))
 else bif decide (d≥b2_1) then
  some (Sum.inl (s8,if d<s9 then d else s9))
 else some (Sum.inl (s8,s9))
def Zkq (b0 b0_1 b1 b1_1 b2 b2_1:Int) (s24:List Int) (s8 s9:Int):Option JA:=
 some (s8,s9,b0,b0_1,b1,b1_1,b2,b2_1)
abbrev ZGK (b0 b0_1 b1 b1_1 b2 b2_1:Int) (s24:List Int) (i:Nat) (s:Int×Int):YE:=(s.1,s.2,s24,(s24.length:Int),(i:Int),b0,b0_1,b1,b1_1,b2,b2_1)
def Zte (b0 b0_1 b1 b1_1 b2 b2_1:Int) (s24:List Int) (s:Int×Int):Option JA:=Zl (fun i s d=>V5 b0 b0_1 b1 b1_1 b2 b2_1 s24 i s.1 s.2 d) (fun s=>Zkq b0 b0_1 b1 b1_1 b2 b2_1 s24 s.1 s.2) 0 s24 s
theorem ZF8 (b0 b0_1 b1 b1_1 b2 b2_1:Int) (s24:List Int) (s:Int×Int) (hl:s24.length<9223372036854775807):ZcB (s.1,s.2,s24,(s24.length:Int),0,b0,b0_1,b1,b1_1,b2,b2_1)=Zte b0 b0_1 b1 b1_1 b2 b2_1 s24 s:=by
 unfold ZcB Zte
 refine Zk s24 (ZGK b0 b0_1 b1 b1_1 b2 b2_1 s24) _ _ ?_ ?_ s (by unfold Zj;omega)
 ·intro i s d hi hd
  have e1:decide ((i:Int)<(s24.length:Int))=true:=decide_eq_true (by omega)
  have e2:decide (0≤(i:Int))=true:=decide_eq_true (by omega)
  have e3:Int.toNat (i:Int)=i:=Int.toNat_natCast i
  have e4:=Zm hi (Nat.le_of_lt hl)
  show ZbY (s.1) (s.2) (s24) ((s24.length:Int)) ((i:Int)) (b0) (b0_1) (b1) (b1_1) (b2) (b2_1)=upd _ (V5 b0 b0_1 b1 b1_1 b2 b2_1 s24 i s.1 s.2 d)
  unfold ZbY V5
  simp only [e1,e2,e3,e4,hd,cond_true,cond_false,Zb,Zv,Zy,Zw,ZB,ZC,Zx]
 ·intro s
  have e1:decide ((s24.length:Int)<(s24.length:Int))=false:=decide_eq_false (by omega)
  show ZbY (s.1) (s.2) (s24) ((s24.length:Int)) ((s24.length:Int)) (b0) (b0_1) (b1) (b1_1) (b2) (b2_1)=_
  unfold ZbY Zkq
  rw [e1]
  rfl
section
open Go.Proofs Go.Proofs.YtbdcblpjemmipaaGreat
abbrev KK:=((List Int)×Int×Int×Int×Int×Int×Int×Int×Int×Int)
abbrev Jg:=(Int×Int×Int×Int×Int×Int×Int×Int)
def Zbm (s2:List Int) (s8 s9 s10 b0 b0_1 b1 b1_1 b2 b2_1:Int):Option (((List Int)×Int×Int×Int×Int×Int×Int×Int×Int×Int)⊕(Int×Int×Int×Int×Int×Int×Int×Int)):=
 bif decide (s10<(↑s2.length:Int)) then
 bif decide (0≤s10) then
 optC s2[s10.toNat]? none fun d12=>
 bif decide (d12≤b2) then
 bif decide (d12>s8) then
 bif decide (d12≥b2_1) then
 bif decide (d12<s9) then some (Sum.inl (s2,d12,d12,IntKind.i64.wrap (s10+1),b0,b0_1,b1,b1_1,b2,b2_1))
 else some (Sum.inl (s2,d12,s9,IntKind.i64.wrap (s10+1),b0,b0_1,b1,b1_1,b2,b2_1))
 else some (Sum.inl (s2,d12,s9,IntKind.i64.wrap (s10+1),b0,b0_1,b1,b1_1,b2,b2_1))
 else
 bif decide (d12≥b2_1) then
 bif decide (d12<s9) then some (Sum.inl (s2,s8,d12,IntKind.i64.wrap (s10+1),b0,b0_1,b1,b1_1,b2,b2_1))
 else some (Sum.inl (s2,s8,s9,IntKind.i64.wrap (s10+1),b0,b0_1,b1,b1_1,b2,b2_1))
 else some (Sum.inl (s2,s8,s9,IntKind.i64.wrap (s10+1),b0,b0_1,b1,b1_1,b2,b2_1))
 else
 bif decide (d12≥b2_1) then
 bif decide (d12<s9) then some (Sum.inl (s2,s8,d12,IntKind.i64.wrap (s10+1),b0,b0_1,b1,b1_1,b2,b2_1))
 else some (Sum.inl (s2,s8,s9,IntKind.i64.wrap (s10+1),b0,b0_1,b1,b1_1,b2,b2_1))
 else some (Sum.inl (s2,s8,s9,IntKind.i64.wrap (s10+1),b0,b0_1,b1,b1_1,b2,b2_1))
 else none
 else some (Sum.inr (s8,s9,b0,b0_1,b1,b1_1,b2,b2_1))
def Zju:KK→Option (KK⊕Jg):=fun (a,b,c,d,e,f,g,h,i,j)=>Zbm a b c d e f g h i j
def ZbI (x:KK):Option Jg:=iterO Zju Zj x
def ZsK (a0 a1:I) (a2:List Int):Option I:=
 bif decide (a1.1>a1.2) then some (a0.1,a0.2)
 else
 bif decide (a0.1>a0.2) then some (a1.1,a1.2)
 else
 optC (ZD (a0,a1,())) none fun d5=>
 optC (ZbI (a2,-2147483648,2147483647,0,a0.1,a0.2,0,0,d5)) none fun d6=>
 bif decide (d6.2.2.2.2.2.2.1<d6.2.2.1) then
 bif decide (d6.2.2.2.2.2.2.2>d6.2.2.2.1) then some (d6.1,d6.2.1) else some (d6.1,d6.2.2.2.2.2.2.2)
 else
 bif decide (d6.2.2.2.2.2.2.2>d6.2.2.2.1) then some (d6.2.2.2.2.2.2.1,d6.2.1)
 else some (d6.2.2.2.2.2.2.1,d6.2.2.2.2.2.2.2)
def ZiL (x:(I×(I×((List Int)×Unit)))):Option I:=ZsK x.1 x.2.1 x.2.2.1
end
def Hv (b0 b0_1 b1 b1_1 b2 b2_1:Int) (s2:List Int) (i:Nat) (s8 s9 d:Int):Option ((Int×Int)⊕Jg):=
 bif decide (d≤b2) then
  bif decide (d>s8) then
  bif decide (d≥b2_1) then
  bif decide (d<s9) then
  some (Sum.inl (d,d))
 else some (Sum.inl (d,s9))
 else some (Sum.inl (d,s9))
 else bif decide (d≥b2_1) then
  bif decide (d<s9) then
  some (Sum.inl (s8,d))
 else some (Sum.inl (s8,s9))
 else some (Sum.inl (s8,s9))
 else bif decide (d≥b2_1) then
  bif decide (d<s9) then
  some (Sum.inl (s8,d))
 else some (Sum.inl (s8,s9))
 else some (Sum.inl (s8,s9))
def ZiV (b0 b0_1 b1 b1_1 b2 b2_1:Int) (s2:List Int) (s8 s9:Int):Option Jg:=
 some (s8,s9,b0,b0_1,b1,b1_1,b2,b2_1)
abbrev ZEW (b0 b0_1 b1 b1_1 b2 b2_1:Int) (s2:List Int) (i:Nat) (s:Int×Int):KK:=(s2,s.1,s.2,(i:Int),b0,b0_1,b1,b1_1,b2,b2_1)
def Zrs (b0 b0_1 b1 b1_1 b2 b2_1:Int) (s2:List Int) (s:Int×Int):Option Jg:=Zl (fun i s d=>Hv b0 b0_1 b1 b1_1 b2 b2_1 s2 i s.1 s.2 d) (fun s=>ZiV b0 b0_1 b1 b1_1 b2 b2_1 s2 s.1 s.2) 0 s2 s
theorem ZEw (b0 b0_1 b1 b1_1 b2 b2_1:Int) (s2:List Int) (s:Int×Int) (hl:s2.length<9223372036854775807):ZbI (s2,s.1,s.2,0,b0,b0_1,b1,b1_1,b2,b2_1)=Zrs b0 b0_1 b1 b1_1 b2 b2_1 s2 s:=by
 unfold ZbI Zrs
 refine Zk s2 (ZEW b0 b0_1 b1 b1_1 b2 b2_1 s2) _ _ ?_ ?_ s (by unfold Zj;omega)
 ·intro i s d hi hd
  have e1:decide ((i:Int)<(s2.length:Int))=true:=decide_eq_true (by omega)
  have e2:decide (0≤(i:Int))=true:=decide_eq_true (by omega)
  have e3:Int.toNat (i:Int)=i:=Int.toNat_natCast i
  have e4:=Zm hi (Nat.le_of_lt hl)
  show Zbm (s2) (s.1) (s.2) ((i:Int)) (b0) (b0_1) (b1) (b1_1) (b2) (b2_1)=upd _ (Hv b0 b0_1 b1 b1_1 b2 b2_1 s2 i s.1 s.2 d)
  unfold Zbm Hv
  simp only [e1,e2,e3,e4,hd,cond_true,cond_false,Zb,Zv,Zy,Zw,ZB,ZC,Zx]
 ·intro s
  have e1:decide ((s2.length:Int)<(s2.length:Int))=false:=decide_eq_false (by omega)
  show Zbm (s2) (s.1) (s.2) ((s2.length:Int)) (b0) (b0_1) (b1) (b1_1) (b2) (b2_1)=_
  unfold Zbm ZiV
  rw [e1]
  rfl
def stpT (f:I→I→I) (l:List En) (e:En):List En:=if empB (vl e) then l else pinT f e l
def addT (f:I→I→I) (l es:List En):List En:=es.foldl (stpT f) l
theorem ZG3 (f:I→I→I) (l:List En) (e:En):(stpT f l e).length≤l.length+1:=by
 unfold stpT
 have:=ZW1 f e l
 split<;>omega
theorem ZG4 {f:I→I→I} {l:List En} {e:En} (h:srt l):srt (stpT f l e):=by
 unfold stpT
 split
 ·exact h
 ·exact ZW2 h
theorem ZLe (f:I→I→I):∀ (es l:List En),(addT f l es).length≤l.length+es.length
 | [],l=>Nat.le_refl _
 | e::r,l=>by
  have h1:=ZLe f r (stpT f l e)
  have h2:=ZG3 f l e
  show (addT f (stpT f l e) r).length≤_
  rw [List.length_cons];omega
theorem ZyI {f:I→I→I}:∀ {es l:List En},srt l→srt (addT f l es)
 | [],l,h=>h
 | e::r,l,h=>ZyI (es:=r) (ZG4 h)
theorem ZWI {n p:Nat} (h:n≤1000000000) (hp:p≤n):decide (0≤(p:Int)∧(p:Int)≤(n:Int)∧(n+2)*48≤lim)=true:=decide_eq_true (by unfold lim;omega)
theorem ZZP (L:List En) (j:Nat) (s:List En) (d:En) (hs:srt s) (hn:s.length≤1000000000):Zel L j s d=some (.inl (stpT iJoin s d)):=by
 unfold Zel stpT
 rw [show decide (d.2.2.2.2.1>d.2.2.2.2.2)=empB (vl d) from rfl]
 cases hE:empB (vl d)
 case true=>rfl
 simp only [cond_false,Zkd,ZOQ s d hs (by omega),Zb,Bool.false_eq_true,if_false]
 cases hf:fndT d s
 ·simp only [Bool.not_false,cond_true,ZWI hn (ZKA d s),Int.toNat_natCast]
  rw [ZLr _ _ _ hf]
 ·obtain ⟨x,hx,hk⟩:=ZvZ d s hf
  simp only [Bool.not_true,cond_false,cond_true,decide_eq_true (show (0:Int)≤(posT d s:Int) by omega),Int.toNat_natCast,hx,Zb]
  rw [ZLs _ _ _ x hf hx]
  rw [show decide (x.2.2.2.2.1>x.2.2.2.2.2)=empB (vl x) from rfl]
  unfold iJoin
  cases hX:empB (vl x)
  ·simp only [cond_false,hE,Bool.false_eq_true,if_false]
   rfl
  ·simp only [cond_true,hE,Bool.false_eq_true,if_false,if_true]
   rfl
theorem ZY6 (L:List En) (j:Nat) (s:List En) (d:En) (hn:s.length≤1000000000):Js L j s d=some (.inl (stpT rJoin s d)):=by
 unfold Js stpT
 rw [show decide (d.2.2.2.2.1>d.2.2.2.2.2)=empB (vl d) from rfl]
 cases hE:empB (vl d)
 case true=>rfl
 simp only [cond_false,K9,ZFS s d (by omega),Zb,Bool.false_eq_true,if_false]
 have hp:=ZKA d s
 cases hf:fndT d s
 ·have e1:decide ((0:Int)≤0∧0≤(posT d s:Int)∧(posT d s:Int)≤(s.length:Int))=true:=decide_eq_true (by omega)
  have e2:decide (0≤(posT d s:Int)∧(posT d s:Int)≤(s.length:Int)∧(s.length:Int)≤(s.length:Int))=true:=decide_eq_true (by omega)
  have lm:∀ n:Nat,n≤1000000001→decide ((n+1)*48≤lim)=true:=fun n h=>decide_eq_true (by unfold lim;omega)
  simp only [cond_false,e1,e2,cond_true,Int.toNat_natCast,Int.toNat_zero,List.drop_zero,List.nil_append,List.length_nil,Nat.zero_add,List.take_length]
  rw [lm _ (by simp only [List.length_take];omega),lm _ (by simp only [List.length_take,List.length_cons,List.length_nil];omega),lm _ (by simp only [List.length_append,List.length_take,List.length_drop,List.length_cons,List.length_nil];omega),ZLr _ _ _ hf]
  simp only [cond_true,List.append_assoc,List.singleton_append]
 ·obtain ⟨x,hx,hk⟩:=ZvZ d s hf
  simp only [cond_true,decide_eq_true (show (0:Int)≤(posT d s:Int) by omega),Int.toNat_natCast,hx,Zb,ZD,VW]
  rw [ZLs _ _ _ x hf hx]
  rfl
theorem Zg3 {σ α Y:Type} {f:Nat→σ→α→Option (σ⊕Y)} {fin:σ→Option Y} {g:σ→α→σ} (ok:σ→List α→Prop) (h:∀ j s d r,ok s (d::r)→f j s d=some (.inl (g s d))∧ok (g s d) r) :
  ∀ (r:List α) (j:Nat) (s:σ),ok s r→Zl f fin j r s=fin (r.foldl g s)
 | [],_,_,_=>rfl
 | d::r,j,s,hs=>by
  obtain ⟨h1,h2⟩:=h j s d r hs
  rw [Qk h1,Zg3 ok h r (j+1) (g s d) h2];rfl
theorem ZRF (l es:List En) (hs:srt l) (hn:l.length+es.length≤1000000000):Zv4 l es=some (addT iJoin l es):=by
 unfold Zv4
 simp only [List.nil_append,List.length_nil,Nat.zero_add]
 rw [show decide ((l.length+1)*48≤lim)=true from decide_eq_true (by unfold lim;omega),ZLS es l (by omega)]
 unfold Zpr
 rw [Zg3 (g:=stpT iJoin) (fun s r=>srt s∧s.length+r.length≤1000000000) (fun j s d r h=>⟨ZZP es j s d h.1 (by have:=h.2;rw [List.length_cons] at this;omega),ZG4 h.1,by
  have:=h.2;have:=ZG3 iJoin s d;rw [List.length_cons] at *;omega⟩) es 0 l ⟨hs,hn⟩]
 rfl
theorem ZzN (l es:List En) (hn:l.length+es.length≤1000000000):Zfe l es=some (addT rJoin l es):=by
 unfold Zfe
 simp only [List.nil_append,List.length_nil,Nat.zero_add]
 rw [show decide ((l.length+1)*48≤lim)=true from decide_eq_true (by unfold lim;omega),Zum es l (by omega)]
 unfold Zf2
 rw [Zg3 (g:=stpT rJoin) (fun s r=>s.length+r.length≤1000000000) (fun j s d r h=>⟨ZY6 es j s d (by rw [List.length_cons] at h;omega),by
  have:=ZG3 rJoin s d;rw [List.length_cons] at *;omega⟩) es 0 l hn]
 rfl
theorem ZXo (z x y:I) (L:List Int):∀ (l:List Int) (j:Nat) (s:I),Zl (fun i s d=>V5 x.1 x.2 y.1 y.2 z.1 z.2 L i s.1 s.2 d) (fun s=>Zkq x.1 x.2 y.1 y.2 z.1 z.2 L s.1 s.2) j l s =
  some ((l.foldl (fun s d=>if fitB d then (if d≤z.1 then mx s.1 d else s.1,if d≥z.2 then mn s.2 d else s.2) else (s.1,s.2)) s).1,(l.foldl (fun s d=>if fitB d then (if d≤z.1 then mx s.1 d else s.1,if d≥z.2 then mn s.2 d else s.2) else (s.1,s.2)) s).2,x.1,x.2,y.1,y.2,z.1,z.2)
 | [],j,s=>rfl
 | d::r,j,s=>by
  have h:V5 x.1 x.2 y.1 y.2 z.1 z.2 L j s.1 s.2 d=some (.inl (if fitB d then (if d≤z.1 then mx s.1 d else s.1,if d≥z.2 then mn s.2 d else s.2) else (s.1,s.2))):=by
   unfold V5 Zkb
   simp only [ZMI,Zb,Zfu,Zft]
   cases fitB d
   ·rfl
   ·by_cases h1:d≤z.1<;>by_cases h2:d≥z.2<;>simp [h1,h2]
  rw [Qk h,ZXo z x y L r (j+1)]
  rfl
theorem ZMH (x y:I) (l:List Int) (hl:l.length<9223372036854775807):Zvg x y l=some (widV x y l):=by
 unfold Zvg widV
 rw [show decide (y.1>y.2)=empB y from rfl,show decide (x.1>x.2)=empB x from rfl]
 cases hy:empB y
 ·cases hx:empB x
  ·simp only [cond_false,Bool.false_eq_true,if_false,ZF,ZbF,Zb]
   have h:=ZF8 x.1 x.2 0 0 (iJoin x y).1 (iJoin x y).2 l aa hl
   have h2:=ZXo (iJoin x y) x (0,0) l l 0 aa
   have e:ZcB (-2147483648,2147483647,l,(l.length:Int),0,x.1,x.2,0,0,iJoin x y)=_:=h.trans h2
   rw [e]
   simp only [Zb]
   unfold widS
   generalize List.foldl _ aa l=w
   by_cases h1:(iJoin x y).1<x.1<;>by_cases h2:(iJoin x y).2>x.2<;>simp [h1,h2]
  ·rfl
 ·rfl
theorem ZU3 (z x y:I) (L:List Int):∀ (l:List Int) (j:Nat) (s:I),Zl (fun i s d=>Hv x.1 x.2 y.1 y.2 z.1 z.2 L i s.1 s.2 d) (fun s=>ZiV x.1 x.2 y.1 y.2 z.1 z.2 L s.1 s.2) j l s =
  some ((l.foldl (fun s d=>(if d≤z.1∧d>s.1 then d else s.1,if d≥z.2∧d<s.2 then d else s.2)) s).1,(l.foldl (fun s d=>(if d≤z.1∧d>s.1 then d else s.1,if d≥z.2∧d<s.2 then d else s.2)) s).2,x.1,x.2,y.1,y.2,z.1,z.2)
 | [],j,s=>rfl
 | d::r,j,s=>by
  have h:Hv x.1 x.2 y.1 y.2 z.1 z.2 L j s.1 s.2 d=some (.inl (if d≤z.1∧d>s.1 then d else s.1,if d≥z.2∧d<s.2 then d else s.2)):=by
   unfold Hv
   by_cases h1:d≤z.1<;>by_cases h2:d>s.1<;>by_cases h3:d≥z.2<;>by_cases h4:d<s.2<;>simp [h1,h2,h3,h4]
  rw [Qk h,ZU3 z x y L r (j+1)]
  rfl
theorem ZKv (x y:I) (l:List Int) (hl:l.length<9223372036854775807):ZsK x y l=some (rwidV x y l):=by
 unfold ZsK rwidV
 rw [show decide (y.1>y.2)=empB y from rfl,show decide (x.1>x.2)=empB x from rfl]
 cases hy:empB y
 ·cases hx:empB x
  ·simp only [cond_false,Bool.false_eq_true,if_false,ZD,VW,Zb]
   have h:=ZEw x.1 x.2 0 0 (rJoin x y).1 (rJoin x y).2 l aa hl
   have h2:=ZU3 (rJoin x y) x (0,0) l l 0 aa
   have e:ZbI (l,-2147483648,2147483647,0,x.1,x.2,0,0,rJoin x y)=_:=h.trans h2
   rw [e]
   simp only [Zb]
   unfold rwidS
   generalize List.foldl _ aa l=w
   by_cases h1:(rJoin x y).1<x.1<;>by_cases h2:(rJoin x y).2>x.2<;>simp [h1,h2]
  ·rfl
 ·rfl
def widF (st:List Int) (o n:I):I:=widV o n st
def isClo (k f:Nat) (args:List AV):Bool:=match args[k]? with
 | some (.clo g _ _)=>Nat.beq g f
 | _=>false
section
open Go.Proofs Go.Proofs.YtbdcblpjemmipaaGreat
def ZOc:List Sh:=[.dat (.sl tI),.dat (.int .i64)]
def ZR2:List Con:=[⟨110,VA,Zau⟩]
def ZFC (a0:List I) (a1:Int):Option I:=
 bif decide (a1≥(↑a0.length:Int)) then some (1,0)
 else bif decide (0≤a1) then optC a0[a1.toNat]? none fun d3=>some (d3.1,d3.2) else none
theorem ZX2 (a0:List I) (a1:Int):evGX (cxU ZR2 [] 40 1048576) keeps 8 127 ZOc (.dat tI) ((a0,a1,()):((List I)×(Int×Unit)))=ZFC a0 a1:=by kernel_rfl
def Zhp (x:(List I)×(Int×Unit)):Option I:=ZFC x.1 x.2.1
def Zx8:List AV→Prog AV:=conP true ZOc (.dat tI) Zhp
theorem ZGV:Zd Tryz.prog 127 Zx8:=Zc (calU ZR2 [] 40 1048576 8 127) true (by rfl) (by rfl) (fun x r e=>(Zg _ _ _ _ _ _ _).trans ((ZX2 x.1 x.2.1).trans e)) (.inl rfl)
end
section
open Go.Proofs Go.Proofs.YtbdcblpjemmipaaGreat
def ZC4:List Sh:=[.dat (.sl tI),.dat (.sl tI),.clo 158 [] []]
def ZfW:Nat→List Nat:=fun c=>bif c.beq 0 then [0,1,2,7,10,11] else [7]
def Zqt:List Con:=[⟨127,Zx8,ZGV⟩,⟨111,Zas,ZbV⟩]
def KS:StS:=⟨[(0,.sl tI),(1,.sl tI),(2,.clo 158 [] []),(7,.row 0),(10,.int .i64),(11,.int .i64)],[(0,.row tI)],1⟩
def Ym:StS:=⟨[(7,.row 0)],[(0,.row tI)],1⟩
abbrev Kt:=((List I)×(List I)×Int×Int×(List I))
def ZqZ:StD KS→Kt:=fun ((a,b,(_,_),_,c,d,_),(e,_))=>(a,b,c,d,e)
def ZjF:Kt→StD KS:=fun (a,b,c,d,e)=>((a,b,((),()),(),c,d,()),(e,()))
abbrev Q6:=(List I)
def ZAy (d:StD Ym):Q6:=(d.2.1)
def Zgp (x:Q6):StD Ym:=(((),()),(x,()))
def Zbg (s0 s1:List I) (s10 s11:Int) (b0:List I):Option (((List I)×(List I)×Int×Int×(List I))⊕(List I)):=
 bif decide (s11<s10) then
 bif decide (0≤s11) then
 optC s0[s11.toNat]? none fun d7=>
 optC (Zhp (s1,s11,())) none fun d8=>
 optC (ZF ([d7,d8],())) none fun d9=>
 bif decide ((b0.length+[d9].length+1)*16≤lim) then some (Sum.inl (s0,s1,s10,IntKind.i64.wrap (s11+1),b0++[d9])) else none
 else none
 else some (Sum.inr b0)
def Zjn:Kt→Option (Kt⊕Q6):=fun (a,b,c,d,e)=>Zbg a b c d e
theorem ZEA (x:Kt):rdX (cxU Zqt [] 40 1048576) keeps 8 ⟨191,28,keeps 191,0⟩ 0 (bodyX 191 0) 0 ZfW (sT KS (ZjF x)) (sH KS (ZjF x)) (rdO (fun T h=>(rdS KS T h).map ZqZ) (getE 2 Ym ZAy))=Zjn x:=by kernel_rfl
def Zey (x:Kt):Option Q6:=iterO Zjn Zj x
def Zwr:Nat→Tm→Prog (Nat×Tm):=(varP 0 (fun T h=>(rdS KS T h).map ZqZ) Zey (altE 2 Ym Zgp) (fun _ _=>.fail))
def Zua:Lpc:=⟨191,0,28,(ownP [] [(7,tI)] (ZfW 0) (fun base T=>.norm base (ZfW 0) T (Zwr base))),by kernel_rfl,by kernel_rfl,(WQ (loopU Zqt [] 40 1048576 8 (keep:=ZfW) (q:=Zwr) (by kernel_rfl) (Zp (s:=KS) (un:=ZjF) (by rfl) (fun _=>rfl) (Zi (s:=Ym) (un:=Zgp) (by rfl) (fun _=>rfl)) (step:=Zjn) ZEA (fun _ _ e=>⟨_,e⟩) (Zh 2 Ym Zgp) (ZA.fail _ _))))⟩
def ZsB (a0 a1:List I):Option (List I):=
 optC (Zey (a0,a1,(↑a0.length:Int),0,[])) none fun d4=>some d4
theorem ZQb (a0 a1:List I):evGX (cxU Zqt [Zua] 40 1048576) keeps 8 191 ZC4 (.dat (.sl tI)) ((a0,a1,((),()),()):((List I)×((List I)×((Unit×Unit)×Unit))))=ZsB a0 a1:=by kernel_rfl
def Zdl (x:((List I)×((List I)×((Unit×Unit)×Unit)))):Option (List I):=ZsB x.1 x.2.1
def Zuu:List AV→Prog AV:=conP true ZC4 (.dat (.sl tI)) Zdl
theorem ZE0:Zd Tryz.prog 191 Zuu:=Zc (calU Zqt [Zua] 40 1048576 8 191) true (by rfl) (by rfl) (fun x r e=>(Zg _ _ _ _ _ _ _).trans ((ZQb x.1 x.2.1).trans e)) (.inl rfl)
end
def ZdW (s1 s0:List I) (i:Nat) (b0:List I) (d:I):Option ((List I)⊕Q6):=
 optC (Zhp (s1,(i:Int),())) (none) fun d8=>
  optC (ZF ([d,d8],())) (none) fun d9=>
  bif decide ((b0.length+[d9].length+1)*16≤lim) then
  some (Sum.inl (b0++[d9]))
 else none
def ZiQ (s1 s0 b0:List I):Option Q6:=
 some b0
abbrev ZEQ (s1 s0:List I) (i:Nat) (s:List I):Kt:=(s0,s1,(s0.length:Int),(i:Int),s)
def Zje (s1 s0 s:List I):Option Q6:=Zl (fun i s d=>ZdW s1 s0 i s d) (fun s=>ZiQ s1 s0 s) 0 s0 s
theorem ZEr (s1 s0 s:List I) (hl:s0.length<9223372036854775807):Zey (s0,s1,(s0.length:Int),0,s)=Zje s1 s0 s:=by
 unfold Zey Zje
 refine Zk s0 (ZEQ s1 s0) _ _ ?_ ?_ s (by unfold Zj;omega)
 ·intro i s d hi hd
  have e1:decide ((i:Int)<(s0.length:Int))=true:=decide_eq_true (by omega)
  have e2:decide (0≤(i:Int))=true:=decide_eq_true (by omega)
  have e3:Int.toNat (i:Int)=i:=Int.toNat_natCast i
  have e4:=Zm hi (Nat.le_of_lt hl)
  show Zbg (s0) (s1) ((s0.length:Int)) ((i:Int)) (s)=upd _ (ZdW s1 s0 i s d)
  unfold Zbg ZdW
  simp only [e1,e2,e3,e4,hd,cond_true,cond_false,Zb,Zv,Zy,Zw,ZB,ZC,Zx]
 ·intro s
  have e1:decide ((s0.length:Int)<(s0.length:Int))=false:=decide_eq_false (by omega)
  show Zbg (s0) (s1) ((s0.length:Int)) ((s0.length:Int)) (s)=_
  unfold Zbg ZiQ
  rw [e1]
  rfl
section
open Go.Proofs Go.Proofs.YtbdcblpjemmipaaGreat
def ZC5:List Sh:=[.dat (.sl tI),.dat (.sl tI),.clo 159 [] [.view [.sln (.int .i64)] 0]]
def ZfX:Nat→List Nat:=fun c=>bif c.beq 0 then [0,1,2,7,10,11] else [7]
def Zqu:List Con:=[⟨127,Zx8,ZGV⟩,⟨109,Zqd,ZwZ⟩]
def KU:StS:=⟨[(0,.sl tI),(1,.sl tI),(2,.clo 159 [] [.view [.sl (.int .i64)] 0]),(7,.row 0),(10,.int .i64),(11,.int .i64)],[(0,.row tI)],1⟩
def Yn:StS:=⟨[(7,.row 0)],[(0,.row tI)],1⟩
abbrev Ku:=((List I)×(List I)×(List Int)×Int×Int×(List I))
def Zq0:StD KU→Ku:=fun ((a,b,(_,((c,_),_)),_,d,e,_),(f,_))=>(a,b,c,d,e,f)
def ZjG:Ku→StD KU:=fun (a,b,c,d,e,f)=>((a,b,((),((c,()),())),(),d,e,()),(f,()))
abbrev Q7:=(List I)
def ZAz (d:StD Yn):Q7:=(d.2.1)
def Zgq (x:Q7):StD Yn:=(((),()),(x,()))
def Zbh (s0 s1:List I) (s2:List Int) (s10 s11:Int) (b0:List I):Option (((List I)×(List I)×(List Int)×Int×Int×(List I))⊕(List I)):=
 bif decide (s11<s10) then
 bif decide (0≤s11) then
 optC s0[s11.toNat]? none fun d8=>
 optC (Zhp (s1,s11,())) none fun d9=>
 optC (Zhr (d8,d9,s2,())) none fun d10=>
 bif decide ((b0.length+[d10].length+1)*16≤lim) then some (Sum.inl (s0,s1,s2,s10,IntKind.i64.wrap (s11+1),b0++[d10])) else none
 else none
 else some (Sum.inr b0)
def Zjo:Ku→Option (Ku⊕Q7):=fun (a,b,c,d,e,f)=>Zbh a b c d e f
theorem ZEB (x:Ku):rdX (cxU Zqu [] 40 1048576) keeps 8 ⟨191,28,keeps 191,0⟩ 0 (bodyX 191 0) 0 ZfX (sT KU (ZjG x)) (sH KU (ZjG x)) (rdO (fun T h=>(rdS KU T h).map Zq0) (getE 2 Yn ZAz))=Zjo x:=by kernel_rfl
def Zez (x:Ku):Option Q7:=iterO Zjo Zj x
def Zws:Nat→Tm→Prog (Nat×Tm):=(varP 0 (fun T h=>(rdS KU T h).map Zq0) Zez (altE 2 Yn Zgq) (fun _ _=>.fail))
def Zub:Lpc:=⟨191,0,28,(ownP [] [(7,tI)] (ZfX 0) (fun base T=>.norm base (ZfX 0) T (Zws base))),by kernel_rfl,by kernel_rfl,(WQ (loopU Zqu [] 40 1048576 8 (keep:=ZfX) (q:=Zws) (by kernel_rfl) (Zp (s:=KU) (un:=ZjG) (by rfl) (fun _=>rfl) (Zi (s:=Yn) (un:=Zgq) (by rfl) (fun _=>rfl)) (step:=Zjo) ZEB (fun _ _ e=>⟨_,e⟩) (Zh 2 Yn Zgq) (ZA.fail _ _))))⟩
def ZsC (a0 a1:List I) (a2:List Int):Option (List I):=
 optC (Zez (a0,a1,a2,(↑a0.length:Int),0,[])) none fun d5=>some d5
theorem ZQc (a0 a1:List I) (a2:List Int):evRX (cxU Zqu [Zub] 40 1048576) keeps 8 191 ZC5 tI ((a0,a1,((),((a2,()),())),()):((List I)×((List I)×((Unit×(((List Int)×Unit)×Unit))×Unit))))=ZsC a0 a1 a2:=by kernel_rfl
def ZnD (x:((List I)×((List I)×((Unit×(((List Int)×Unit)×Unit))×Unit)))):Option (List I):=ZsC x.1 x.2.1 x.2.2.1.2.1.1
def Zuv:List AV→Prog AV:=conR false ZC5 tI ZnD
theorem ZE1:Zd Tryz.prog 191 Zuv:=Zkn (calU Zqu [Zub] 40 1048576 8 191) false (by rfl) (fun x r e=>(ZuE _ _ _ _ _ _ _).trans ((ZQc x.1 x.2.1 x.2.2.1.2.1.1).trans e)) (.inr (by rfl))
end
def ZdX (s1:List I) (s2:List Int) (s0:List I) (i:Nat) (b0:List I) (d:I):Option ((List I)⊕Q7):=
 optC (Zhp (s1,(i:Int),())) (none) fun d9=>
  optC (Zhr (d,d9,s2,())) (none) fun d10=>
  bif decide ((b0.length+[d10].length+1)*16≤lim) then
  some (Sum.inl (b0++[d10]))
 else none
def ZiR (s1:List I) (s2:List Int) (s0 b0:List I):Option Q7:=
 some b0
abbrev ZER (s1:List I) (s2:List Int) (s0:List I) (i:Nat) (s:List I):Ku:=(s0,s1,s2,(s0.length:Int),(i:Int),s)
def Zjf (s1:List I) (s2:List Int) (s0 s:List I):Option Q7:=Zl (fun i s d=>ZdX s1 s2 s0 i s d) (fun s=>ZiR s1 s2 s0 s) 0 s0 s
theorem ZEs (s1:List I) (s2:List Int) (s0 s:List I) (hl:s0.length<9223372036854775807):Zez (s0,s1,s2,(s0.length:Int),0,s)=Zjf s1 s2 s0 s:=by
 unfold Zez Zjf
 refine Zk s0 (ZER s1 s2 s0) _ _ ?_ ?_ s (by unfold Zj;omega)
 ·intro i s d hi hd
  have e1:decide ((i:Int)<(s0.length:Int))=true:=decide_eq_true (by omega)
  have e2:decide (0≤(i:Int))=true:=decide_eq_true (by omega)
  have e3:Int.toNat (i:Int)=i:=Int.toNat_natCast i
  have e4:=Zm hi (Nat.le_of_lt hl)
  show Zbh (s0) (s1) (s2) ((s0.length:Int)) ((i:Int)) (s)=upd _ (ZdX s1 s2 s0 i s d)
  unfold Zbh ZdX
  simp only [e1,e2,e3,e4,hd,cond_true,cond_false,Zb,Zv,Zy,Zw,ZB,ZC,Zx]
 ·intro s
  have e1:decide ((s0.length:Int)<(s0.length:Int))=false:=decide_eq_false (by omega)
  show Zbh (s0) (s1) (s2) ((s0.length:Int)) ((s0.length:Int)) (s)=_
  unfold Zbh ZiR
  rw [e1]
  rfl
section
open Go.Proofs Go.Proofs.YtbdcblpjemmipaaGreat
abbrev JF:=((List I)×(List I)×Int×(List I))
abbrev QR:=(List I)
def Zax (s0 s1:List I) (s6:Int) (b0:List I):Option (((List I)×(List I)×Int×(List I))⊕(List I)):=
 bif decide (s6<(↑s0.length:Int)) then
 bif decide (0≤s6) then
 optC s0[s6.toNat]? none fun d6=>
 optC (Zam (s1,s6,())) none fun d7=>
 optC (ZD (d6,d7,())) none fun d8=>
 bif decide ((b0.length+[d8].length+1)*16≤lim) then some (Sum.inl (s0,s1,IntKind.i64.wrap (s6+1),b0++[d8])) else none
 else none
 else some (Sum.inr b0)
def ZhE:JF→Option (JF⊕QR):=fun (a,b,c,d)=>Zax a b c d
def ZdF (x:JF):Option QR:=iterO ZhE Zj x
def Zqk (a0 a1:List I):Option (List I):=
 optC (ZdF (a0,a1,0,[])) none fun d4=>some d4
def ZlO (x:((List I)×((List I)×Unit))):Option (List I):=Zqk x.1 x.2.1
end
def Zdd (s1 s0:List I) (i:Nat) (b0:List I) (d:I):Option ((List I)⊕QR):=
 optC (Zam (s1,(i:Int),())) (none) fun d7=>
  optC (ZD (d,d7,())) (none) fun d8=>
  bif decide ((b0.length+[d8].length+1)*16≤lim) then
  some (Sum.inl (b0++[d8]))
 else none
def Zhw (s1 s0 b0:List I):Option QR:=
 some b0
abbrev ZCR (s1 s0:List I) (i:Nat) (s:List I):JF:=(s0,s1,(i:Int),s)
def ZhB (s1 s0 s:List I):Option QR:=Zl (fun i s d=>Zdd s1 s0 i s d) (fun s=>Zhw s1 s0 s) 0 s0 s
theorem ZCL (s1 s0 s:List I) (hl:s0.length<9223372036854775807):ZdF (s0,s1,0,s)=ZhB s1 s0 s:=by
 unfold ZdF ZhB
 refine Zk s0 (ZCR s1 s0) _ _ ?_ ?_ s (by unfold Zj;omega)
 ·intro i s d hi hd
  have e1:decide ((i:Int)<(s0.length:Int))=true:=decide_eq_true (by omega)
  have e2:decide (0≤(i:Int))=true:=decide_eq_true (by omega)
  have e3:Int.toNat (i:Int)=i:=Int.toNat_natCast i
  have e4:=Zm hi (Nat.le_of_lt hl)
  show Zax (s0) (s1) ((i:Int)) (s)=upd _ (Zdd s1 s0 i s d)
  unfold Zax Zdd
  simp only [e1,e2,e3,e4,hd,cond_true,cond_false,Zb,Zv,Zy,Zw,ZB,ZC,Zx]
 ·intro s
  have e1:decide ((s0.length:Int)<(s0.length:Int))=false:=decide_eq_false (by omega)
  show Zax (s0) (s1) ((s0.length:Int)) (s)=_
  unfold Zax Zhw
  rw [e1]
  rfl
section
open Go.Proofs Go.Proofs.YtbdcblpjemmipaaGreat
abbrev Jc:=((List I)×(List I)×(List Int)×Int×(List I))
abbrev QB:=(List I)
def Wz (s0 s1:List I) (s2:List Int) (s8:Int) (b0:List I):Option (((List I)×(List I)×(List Int)×Int×(List I))⊕(List I)):=
 bif decide (s8<(↑s0.length:Int)) then
 bif decide (0≤s8) then
 optC s0[s8.toNat]? none fun d7=>
 optC (Zam (s1,s8,())) none fun d8=>
 optC (ZiL (d7,d8,s2,())) none fun d9=>
 bif decide ((b0.length+[d9].length+1)*16≤lim) then some (Sum.inl (s0,s1,s2,IntKind.i64.wrap (s8+1),b0++[d9])) else none
 else none
 else some (Sum.inr b0)
def Zgi:Jc→Option (Jc⊕QB):=fun (a,b,c,d,e)=>Wz a b c d e
def Zc7 (x:Jc):Option QB:=iterO Zgi Zj x
def ZoC (a0 a1:List I) (a2:List Int):Option (List I):=
 optC (Zc7 (a0,a1,a2,0,[])) none fun d5=>some d5
def ZiK (x:((List I)×((List I)×((List Int)×Unit)))):Option (List I):=ZoC x.1 x.2.1 x.2.2.1
end
def Zcw (s1:List I) (s2:List Int) (s0:List I) (i:Nat) (b0:List I) (d:I):Option ((List I)⊕QB):=
 optC (Zam (s1,(i:Int),())) (none) fun d8=>
  optC (ZiL (d,d8,s2,())) (none) fun d9=>
  bif decide ((b0.length+[d9].length+1)*16≤lim) then
  some (Sum.inl (b0++[d9]))
 else none
def Zf6 (s1:List I) (s2:List Int) (s0 b0:List I):Option QB:=
 some b0
abbrev ZAX (s1:List I) (s2:List Int) (s0:List I) (i:Nat) (s:List I):Jc:=(s0,s1,s2,(i:Int),s)
def Zgd (s1:List I) (s2:List Int) (s0 s:List I):Option QB:=Zl (fun i s d=>Zcw s1 s2 s0 i s d) (fun s=>Zf6 s1 s2 s0 s) 0 s0 s
theorem ZAM (s1:List I) (s2:List Int) (s0 s:List I) (hl:s0.length<9223372036854775807):Zc7 (s0,s1,s2,0,s)=Zgd s1 s2 s0 s:=by
 unfold Zc7 Zgd
 refine Zk s0 (ZAX s1 s2 s0) _ _ ?_ ?_ s (by unfold Zj;omega)
 ·intro i s d hi hd
  have e1:decide ((i:Int)<(s0.length:Int))=true:=decide_eq_true (by omega)
  have e2:decide (0≤(i:Int))=true:=decide_eq_true (by omega)
  have e3:Int.toNat (i:Int)=i:=Int.toNat_natCast i
  have e4:=Zm hi (Nat.le_of_lt hl)
  show Wz (s0) (s1) (s2) ((i:Int)) (s)=upd _ (Zcw s1 s2 s0 i s d)
  unfold Wz Zcw
  simp only [e1,e2,e3,e4,hd,cond_true,cond_false,Zb,Zv,Zy,Zw,ZB,ZC,Zx]
 ·intro s
  have e1:decide ((s0.length:Int)<(s0.length:Int))=false:=decide_eq_false (by omega)
  show Wz (s0) (s1) (s2) ((s0.length:Int)) (s)=_
  unfold Wz Zf6
  rw [e1]
  rfl
def rowAt (b:List I) (i:Nat):I:=(b[i]?).getD nn
def zipI (f:I→I→I) (a b:List I):List I:=a.mapIdx fun i d=>f d (rowAt b i)
theorem ZNJ (b:List I) (i:Nat):ZFC b (i:Int)=some (rowAt b i):=by
 unfold ZFC rowAt
 by_cases h:i<b.length
 ·rw [decide_eq_false (by omega),decide_eq_true (by omega)]
  simp only [cond_false,cond_true,Int.toNat_natCast,List.getElem?_eq_getElem h,Zb]
  rfl
 ·have e:b[i]? = none:=List.getElem?_eq_none (by omega)
  rw [decide_eq_true (by omega),e];rfl
theorem ZCH (b:List I) (i:Nat):ZpY b (i:Int)=some (rowAt b i):=by
 unfold ZpY rowAt
 by_cases h:i<b.length
 ·rw [decide_eq_true (by omega),decide_eq_true (by omega)]
  simp only [cond_true,Int.toNat_natCast,List.getElem?_eq_getElem h,Zb]
  rfl
 ·have e:b[i]? = none:=List.getElem?_eq_none (by omega)
  rw [decide_eq_false (by omega),e];rfl
theorem ZwM {Y:Type} {f:Nat→List I→I→Option (List I⊕Y)} {fin:List I→Option Y} {F:I→I→I} {b:List I} (h:∀ j s d,s.length≤1000→f j s d=some (.inl (s++[F d (rowAt b j)]))) :
  ∀ (l:List I) (j:Nat) (s:List I),s.length+l.length≤1000→Zl f fin j l s=fin (s++l.mapIdx fun i d=>F d (rowAt b (j+i)))
 | [],j,s,_=>by simp [Zl]
 | d::r,j,s,hs=>by
  rw [List.length_cons] at hs
  rw [Qk (h j s d (by omega)),ZwM h r (j+1) (s++[F d (rowAt b j)]) (by rw [List.length_append];simp;omega),List.mapIdx_cons,List.append_assoc]
  simp only [List.singleton_append,Nat.add_zero]
  congr 4
  funext i d
  rw [show j+1+i=j+(i+1) by omega]
theorem ZKm {n:Nat} (h:n≤1000):decide ((n+1+1)*16≤lim)=true:=decide_eq_true (by unfold lim;omega)
theorem ZzL (a b:List I) (ha:a.length≤1000):ZsB a b=some (zipI iJoin a b):=by
 unfold ZsB
 rw [ZEr b a [] (by omega)]
 unfold Zje
 rw [ZwM (F:=iJoin) (b:=b) (fun j s d hs=>?_) a 0 [] (by simpa using ha)]
 ·simp only [ZiQ,Zb,List.nil_append,Nat.zero_add];rfl
 ·unfold ZdW Zhp ZF
  simp only [ZNJ,ZbF,Zb,List.length_cons,List.length_nil,Nat.zero_add,ZKm hs,cond_true]
theorem ZwU (a b:List I) (ha:a.length≤1000):Zqk a b=some (zipI rJoin a b):=by
 unfold Zqk
 rw [ZCL b a [] (by omega)]
 unfold ZhB
 rw [ZwM (F:=rJoin) (b:=b) (fun j s d hs=>?_) a 0 [] (by simpa using ha)]
 ·simp only [Zhw,Zb,List.nil_append,Nat.zero_add];rfl
 ·unfold Zdd Zam ZD
  simp only [ZCH,VW,Zb,List.length_cons,List.length_nil,Nat.zero_add,ZKm hs,cond_true]
theorem ZzM (a b:List I) (st:List Int) (hst:st.length<9223372036854775807) (ha:a.length≤1000):ZsC a b st=some (zipI (widF st) a b):=by
 unfold ZsC
 rw [ZEs b st a [] (by omega)]
 unfold Zjf
 rw [ZwM (F:=widF st) (b:=b) (fun j s d hs=>?_) a 0 [] (by simpa using ha)]
 ·simp only [ZiR,Zb,List.nil_append,Nat.zero_add];rfl
 ·unfold ZdX Zhp Zhr
  simp only [ZNJ,ZMH _ _ _ hst,Zb,List.length_cons,List.length_nil,Nat.zero_add,ZKm hs,cond_true]
  rfl
def rwidF (st:List Int) (o n:I):I:=rwidV o n st
theorem ZuQ (a b:List I) (st:List Int) (hst:st.length<9223372036854775807) (ha:a.length≤1000):ZoC a b st=some (zipI (rwidF st) a b):=by
 unfold ZoC
 rw [ZAM b st a [] (by omega)]
 unfold Zgd
 rw [ZwM (F:=rwidF st) (b:=b) (fun j s d hs=>?_) a 0 [] (by simpa using ha)]
 ·simp only [Zf6,Zb,List.nil_append,Nat.zero_add];rfl
 ·unfold Zcw Zam ZiL
  simp only [ZCH,ZKv _ _ _ hst,Zb,List.length_cons,List.length_nil,Nat.zero_add,ZKm hs,cond_true]
  rfl
theorem ZVu {F G:I→I→I} {a b:List I} (h:∀ x y,isB x=true→isB y=true→F x y=G x y) (ha:∀ x∈a,isB x=true) (hb:∀ x∈b,isB x=true):zipI F a b=zipI G a b:=by
 unfold zipI
 apply List.ext_getElem?
 intro i
 simp only [List.getElem?_mapIdx]
 cases e:a[i]? with
 | none=>rfl
 | some d=>
  simp only [Option.map_some]
  rw [h d _ (ha d (List.mem_of_getElem? e))]
  unfold rowAt
  cases e2:b[i]? with
  | none=>rfl
  | some y=>exact hb y (List.mem_of_getElem? e2)
theorem ZyV (F:I→I→I) (a b:List I):(zipI F a b).length=a.length:=by simp [zipI]
theorem ZVv {F:I→I→I} (h:∀ x y,isB x=true∧empB x=false→isB y=true→isB (F x y)=true∧empB (F x y)=false) {a b:List I} (ha:∀ x∈a,isB x=true∧empB x=false) (hb:∀ x∈b,isB x=true) :
  ∀ x∈zipI F a b,isB x=true∧empB x=false:=fun x hx=>by
 unfold zipI at hx
 rw [List.mem_mapIdx] at hx
 obtain ⟨i,hi,rfl⟩:=hx
 refine h _ _ (ha _ (List.getElem_mem hi)) ?_
 unfold rowAt
 cases e2:b[i]? with
 | none=>rfl
 | some y=>exact hb y (List.mem_of_getElem? e2)
section
open Go.Proofs Go.Proofs.YtbdcblpjemmipaaGreat
def ZC3:List Sh:=[.dat tE]
def ZH2:List Con:=[⟨173,ZeS,ZkM⟩]
def ZsA (a0:E):Option E:=
 bif decide (((List.length (α:=I) [])+List.length a0.2.1+1)*16≤lim) then
 bif decide (((List.length (α:=I) [])+List.length a0.2.2.1+1)*16≤lim) then
 bif decide (((List.length (α:=I) [])+List.length a0.2.2.2.1+1)*16≤lim) then
 some (a0.1,[]++a0.2.1,[]++a0.2.2.1,[]++a0.2.2.2.1,a0.2.2.2.2.1,a0.2.2.2.2.2)
 else none
 else none
 else none
theorem ZQa (a0:E):evGX (cxU ZH2 [] 40 1048576) keeps 8 156 ZC3 (.dat tE) ((a0,()):(E×Unit))=ZsA a0:=by kernel_rfl
def ZrG (x:E×Unit):Option E:=ZsA x.1
def ZDu:List AV→Prog AV:=conP true ZC3 (.dat tE) ZrG
theorem ZQN:Zd Tryz.prog 156 ZDu:=Zc (calU ZH2 [] 40 1048576 8 156) true (by rfl) (by rfl) (fun x r e=>(Zg _ _ _ _ _ _ _).trans ((ZQa x.1).trans e)) (.inl rfl)
end
section
open Go.Proofs Go.Proofs.YtbdcblpjemmipaaGreat
def ZHi:List Sh:=[.dat (.sl (.int .i64))]
def ZnW:Nat→List Nat:=fun c=>bif c.beq 0 then [3,13,14,15] else [3]
def Ztl:List Con:=[]
def Y0:StS:=⟨[(3,.int .i64),(13,.sl (.int .i64)),(14,.int .i64),(15,.int .i64)],[],0⟩
def HF:StS:=⟨[(3,.int .i64)],[],0⟩
abbrev WU:=(Int×(List Int)×Int×Int)
def Zr2:StD Y0→WU:=fun ((a,b,c,d,_),_)=>(a,b,c,d)
def Zlk:WU→StD Y0:=fun (a,b,c,d)=>((a,b,c,d,()),())
abbrev ZdI:=Int
def ZCb (d:StD HF):ZdI:=(d.1.1)
def ZhM (x:ZdI):StD HF:=((x,()),())
def ZG0 (s3:Int) (s13:List Int) (s14 s15:Int):Option ((Int×(List Int)×Int×Int)⊕Int):=
 bif decide (s15<s14) then
 bif decide (0≤s15) then
 optC s13[s15.toNat]? none fun d6=>
 some (Sum.inl (IntKind.i64.wrap (↑(BitVec.ofInt IntKind.i64.bits s3 &&& BitVec.ofInt IntKind.i64.bits d6).toNat:Int),s13,s14,IntKind.i64.wrap (s15+1)))
 else none
 else some (Sum.inr s3)
def ZkV:WU→Option (WU⊕ZdI):=fun (a,b,c,d)=>ZG0 a b c d
theorem ZGk (x:WU):rdX (cxU Ztl [] 40 1048576) keeps 8 ⟨128,24,keeps 128,0⟩ 0 (bodyX 128 0) 0 ZnW (sT Y0 (Zlk x)) (sH Y0 (Zlk x)) (rdO (fun T h=>(rdS Y0 T h).map Zr2) (getE 2 HF ZCb))=ZkV x:=by kernel_rfl
def ZtC (x:WU):Option ZdI:=iterO ZkV Zj x
def ZxB:Nat→Tm→Prog (Nat×Tm):=(varP 0 (fun T h=>(rdS Y0 T h).map Zr2) ZtC (altE 2 HF ZhM) (fun _ _=>.fail))
def Zv8:Lpc:=⟨128,0,24,(fun base T=>.norm base (ZnW 0) T (ZxB base)),by kernel_rfl,by kernel_rfl,(loopU Ztl [] 40 1048576 8 (keep:=ZnW) (q:=ZxB) (by kernel_rfl) (Zp (s:=Y0) (un:=Zlk) (by rfl) (fun _=>rfl) (Zi (s:=HF) (un:=ZhM) (by rfl) (fun _=>rfl)) (step:=ZkV) ZGk (fun _ _ e=>⟨_,e⟩) (Zh 2 HF ZhM) (ZA.fail _ _)))⟩
def ZMx (a0:List Int):Option Int:=
 bif (↑a0.length:Int)==0 then some 0
 else
 optC a0[Int.toNat (0:Int)]? none fun d3=>
 bif decide ((0:Int)≤1∧1≤(↑a0.length:Int)∧(↑a0.length:Int)≤(↑a0.length:Int)) then
 optC (ZtC (d3,List.drop (Int.toNat 1) (List.take (↑a0.length:Int).toNat a0),(↑(List.drop (Int.toNat 1) (List.take (↑a0.length:Int).toNat a0)).length:Int),0))
 none fun d4=>some d4
 else none
theorem ZSp (a0:List Int):evGX (cxU Ztl [Zv8] 40 1048576) keeps 8 128 ZHi (.dat (.int .i64)) ((a0,()):((List Int)×Unit))=ZMx a0:=by kernel_rfl
def ZVx (x:(List Int)×Unit):Option Int:=ZMx x.1
def Zqb:List AV→Prog AV:=conP true ZHi (.dat (.int .i64)) ZVx
theorem ZwX:Zd Tryz.prog 128 Zqb:=Zc (calU Ztl [Zv8] 40 1048576 8 128) true (by rfl) (by rfl) (fun x r e=>(Zg _ _ _ _ _ _ _).trans ((ZSp x.1).trans e)) (.inl rfl)
end
section
open Go.Proofs Go.Proofs.YtbdcblpjemmipaaGreat
def ZHg:List Sh:=[.dat (.sl (.int .i64))]
def ZnV:Nat→List Nat:=fun c=>bif c.beq 0 then [3,6,7,8] else [3]
def Ztj:List Con:=[]
def YY:StS:=⟨[(3,.int .i64),(6,.sl (.int .i64)),(7,.int .i64),(8,.int .i64)],[],0⟩
def HD:StS:=⟨[(3,.int .i64)],[],0⟩
abbrev WR:=(Int×(List Int)×Int×Int)
def Zr0:StD YY→WR:=fun ((a,b,c,d,_),_)=>(a,b,c,d)
def Zli:WR→StD YY:=fun (a,b,c,d)=>((a,b,c,d,()),())
abbrev ZdG:=Int
def ZB9 (d:StD HD):ZdG:=(d.1.1)
def ZhK (x:ZdG):StD HD:=((x,()),())
def ZGZ (s3:Int) (s6:List Int) (s7 s8:Int):Option ((Int×(List Int)×Int×Int)⊕Int):=
 bif decide (s8<s7) then
 bif decide (0≤s8) then
 optC s6[s8.toNat]? none fun d6=>
 some (Sum.inl (IntKind.i64.wrap (↑(BitVec.ofInt IntKind.i64.bits s3 ||| BitVec.ofInt IntKind.i64.bits d6).toNat:Int),s6,s7,IntKind.i64.wrap (s8+1)))
 else none
 else some (Sum.inr s3)
def ZkU:WR→Option (WR⊕ZdG):=fun (a,b,c,d)=>ZGZ a b c d
theorem ZGi (x:WR):rdX (cxU Ztj [] 40 1048576) keeps 8 ⟨192,17,keeps 192,0⟩ 0 (bodyX 192 0) 0 ZnV (sT YY (Zli x)) (sH YY (Zli x)) (rdO (fun T h=>(rdS YY T h).map Zr0) (getE 2 HD ZB9))=ZkU x:=by kernel_rfl
def ZtB (x:WR):Option ZdG:=iterO ZkU Zj x
def Zxz:Nat→Tm→Prog (Nat×Tm):=(varP 0 (fun T h=>(rdS YY T h).map Zr0) ZtB (altE 2 HD ZhK) (fun _ _=>.fail))
def Zv6:Lpc:=⟨192,0,17,(fun base T=>.norm base (ZnV 0) T (Zxz base)),by kernel_rfl,by kernel_rfl,(loopU Ztj [] 40 1048576 8 (keep:=ZnV) (q:=Zxz) (by kernel_rfl) (Zp (s:=YY) (un:=Zli) (by rfl) (fun _=>rfl) (Zi (s:=HD) (un:=ZhK) (by rfl) (fun _=>rfl)) (step:=ZkU) ZGi (fun _ _ e=>⟨_,e⟩) (Zh 2 HD ZhK) (ZA.fail _ _)))⟩
def ZMw (a0:List Int):Option Int:=
 optC (ZtB (0,a0,(↑a0.length:Int),0)) none fun d3=>some d3
theorem ZSn (a0:List Int):evGX (cxU Ztj [Zv6] 40 1048576) keeps 8 192 ZHg (.dat (.int .i64)) ((a0,()):((List Int)×Unit))=ZMw a0:=by kernel_rfl
def ZVw (x:(List Int)×Unit):Option Int:=ZMw x.1
def ZwP:List AV→Prog AV:=conP true ZHg (.dat (.int .i64)) ZVw
theorem ZHZ:Zd Tryz.prog 192 ZwP:=Zc (calU Ztj [Zv6] 40 1048576 8 192) true (by rfl) (by rfl) (fun x r e=>(Zg _ _ _ _ _ _ _).trans ((ZSn x.1).trans e)) (.inl rfl)
end
section
open Go.Proofs Go.Proofs.YtbdcblpjemmipaaGreat
abbrev ZBO:Type:=((List E)×Int×Int×Bool×Int×Int×Bool×(List I)×(List I)×(List I)×Int×Int)
def ZJm:List Sh:=[.dat (.sl tE)]
def Ziw:Nat→List Nat:=fun c=>bif c.beq 0 then [2,3,7,8,9] else [2,3]
def Zvz:List Con:=[⟨156,ZDu,ZQN⟩,⟨191,(pickS (isClo 2 158) Zuu Zuv),(Zd.pick (isClo 2 158) ZE0 ZE1)⟩,⟨128,Zqb,ZwX⟩,⟨192,ZwP,ZHZ⟩]
def VI:StS:=⟨[(2,.ptr 0 0),(3,.ptr 1 0),(7,.sl tE),(8,.int .i64),(9,.int .i64)],[(0,.box [.bool,.nil,.nil,.nil,.int .i64,.int .i64]),(1,.box [.bool,.sl tI,.sl tI,.sl tI,.int .i64,.int .i64])],2⟩
def Wi:StS:=⟨[(2,.ptr 0 0),(3,.ptr 1 0)],[(0,.box [.bool,.nil,.nil,.nil,.int .i64,.int .i64]),(1,.box [.bool,.sl tI,.sl tI,.sl tI,.int .i64,.int .i64])],2⟩
abbrev Vh:=ZBO
def ZtS:StD VI→Vh:=fun ((_,_,a,b,c,_),((d,_,_,_,e,f,_),(g,h,i,j,k,l,_),_))=>(a,b,c,d,e,f,g,h,i,j,k,l)
def ZmT:Vh→StD VI:=fun (a,b,c,d,e,f,g,h,i,j,k,l)=>(((),(),a,b,c,()),((d,(),(),(),e,f,()),(g,h,i,j,k,l,()),()))
abbrev Kr:=(Bool×Int×Int×Bool×(List I)×(List I)×(List I)×Int×Int)
def ZDR:StD Wi→Kr:=fun ((_,_,_),((a,_,_,_,b,c,_),(d,e,f,g,h,i,_),_))=>(a,b,c,d,e,f,g,h,i)
def ZjD:Kr→StD Wi:=fun (a,b,c,d,e,f,g,h,i)=>(((),(),()),((a,(),(),(),b,c,()),(d,e,f,g,h,i,()),()))
def ZcL (s7:List E) (s8 s9:Int) (b0:Bool) (b0_1 b0_2:Int) (b1:Bool) (b1_1 b1_2 b1_3:List I) (b1_4 b1_5:Int):Option (ZBO⊕(Bool×Int×Int×Bool×(List I)×(List I)×(List I)×Int×Int)):=
 bif decide (s9<s8) then
 bif decide (0≤s9) then
 optC s7[s9.toNat]? none fun d14=>
 bif !d14.1 then some (Sum.inl (s7,s8,IntKind.i64.wrap (s9+1),b0,b0_1,b0_2,b1,b1_1,b1_2,b1_3,b1_4,b1_5))
 else
 bif !b1 then
 optC (ZrG (d14,())) none fun d15=>
 some (Sum.inl (s7,s8,IntKind.i64.wrap (s9+1),b0,b0_1,b0_2,d15.1,d15.2.1,d15.2.2.1,d15.2.2.2.1,d15.2.2.2.2.1,d15.2.2.2.2.2))
 else
 optC (Zdl (b1_1,d14.2.1,((),()),())) none fun d15=>
 optC (Zdl (b1_2,d14.2.2.1,((),()),())) none fun d16=>
 optC (Zdl (b1_3,d14.2.2.2.1,((),()),())) none fun d17=>
 some
 (Sum.inl
 (s7,s8,IntKind.i64.wrap (s9+1),b0,b0_1,b0_2,true,d15,d16,d17,
 IntKind.i64.wrap (↑(BitVec.ofInt IntKind.i64.bits b1_4 &&& BitVec.ofInt IntKind.i64.bits d14.2.2.2.2.1).toNat:Int),
 IntKind.i64.wrap
 (↑(BitVec.ofInt IntKind.i64.bits (IntKind.i64.wrap (↑(BitVec.ofInt IntKind.i64.bits 0 ||| BitVec.ofInt IntKind.i64.bits b1_5).toNat:Int)) |||
 BitVec.ofInt IntKind.i64.bits d14.2.2.2.2.2).toNat :
 Int)))
 else none
 else some (Sum.inr (b0,b0_1,b0_2,b1,b1_1,b1_2,b1_3,b1_4,b1_5))
def ZmF:Vh→Option (Vh⊕Kr):=fun (a,b,c,d,e,f,g,h,i,j,k,l)=>ZcL a b c d e f g h i j k l
theorem ZIS (x:Vh):rdX (cxU Zvz [] 40 1048576) keeps 8 ⟨112,28,keeps 112,0⟩ 0 (bodyX 112 0) 0 Ziw (sT VI (ZmT x)) (sH VI (ZmT x)) (rdO (fun T h=>(rdS VI T h).map ZtS) (getE 2 Wi ZDR))=ZmF x:=by kernel_rfl
def ZgN (x:Vh):Option Kr:=iterO ZmF Zj x
def ZzV:Nat→Tm→Prog (Nat×Tm):=(varP 0 (fun T h=>(rdS VI T h).map ZtS) ZgN (altE 2 Wi ZjD) (fun _ _=>.fail))
def Zxo:Lpc:=⟨112,0,28,(unP [(1,[(1,tI)]),(1,[(2,tI)]),(1,[(3,tI)]),(1,[(1,tI)]),(1,[(2,tI)]),(1,[(3,tI)])] [] (Ziw 0) (fun base T=>.norm base (Ziw 0) T (ZzV base))),by kernel_rfl,by kernel_rfl,(Z0K (loopU Zvz [] 40 1048576 8 (keep:=Ziw) (q:=ZzV) (by kernel_rfl) (Zp (s:=VI) (un:=ZmT) (by rfl) (fun _=>rfl) (Zi (s:=Wi) (un:=ZjD) (by rfl) (fun _=>rfl)) (step:=ZmF) ZIS (fun _ _ e=>⟨_,e⟩) (Zh 2 Wi ZjD) (ZA.fail _ _))))⟩
def Zyh (a0:List E):Option E:=
 optC (ZgN (a0,(↑a0.length:Int),0,false,0,0,false,[],[],[],0,0)) none fun d3=>
 some (d3.2.2.2.1,d3.2.2.2.2.1,d3.2.2.2.2.2.1,d3.2.2.2.2.2.2.1,d3.2.2.2.2.2.2.2.1,d3.2.2.2.2.2.2.2.2)
theorem ZUu (a0:List E):evGX (cxU Zvz [Zxo] 40 1048576) keeps 8 112 ZJm (.dat tE) ((a0,()):((List E)×Unit))=Zyh a0:=by kernel_rfl
def Zov (x:(List E)×Unit):Option E:=Zyh x.1
def Zzg:List AV→Prog AV:=conP true ZJm (.dat tE) Zov
theorem ZKM:Zd Tryz.prog 112 Zzg:=Zc (calU Zvz [Zxo] 40 1048576 8 112) true (by rfl) (by rfl) (fun x r e=>(Zg _ _ _ _ _ _ _).trans ((ZUu x.1).trans e)) (.inl rfl)
end
def ZfS (b0:Bool) (b0_1 b0_2:Int) (s7:List E) (i:Nat) (b1:Bool) (b1_1 b1_2 b1_3:List I) (b1_4 b1_5:Int) (d:E):Option ((Bool×(List I)×(List I)×(List I)×Int×Int)⊕Kr):=
 bif !d.1 then
  some (Sum.inl (b1,b1_1,b1_2,b1_3,b1_4,b1_5))
 else bif !b1 then
  optC (ZrG (d,())) (none) fun d15=>
  some (Sum.inl (d15.1,d15.2.1,d15.2.2.1,d15.2.2.2.1,d15.2.2.2.2.1,d15.2.2.2.2.2))
 else optC (Zdl (b1_1,d.2.1,((),()),())) (none) fun d15=>
  optC (Zdl (b1_2,d.2.2.1,((),()),())) (none) fun d16=>
  optC (Zdl (b1_3,d.2.2.2.1,((),()),())) (none) fun d17=>
  some (Sum.inl (true,d15,d16,d17,IntKind.i64.wrap (↑(BitVec.ofInt IntKind.i64.bits b1_4 &&& BitVec.ofInt IntKind.i64.bits d.2.2.2.2.1).toNat:Int),IntKind.i64.wrap (↑(BitVec.ofInt IntKind.i64.bits (IntKind.i64.wrap (↑(BitVec.ofInt IntKind.i64.bits 0 ||| BitVec.ofInt IntKind.i64.bits b1_5).toNat:Int)) ||| BitVec.ofInt IntKind.i64.bits d.2.2.2.2.2).toNat:Int)))
def Zmb (b0:Bool) (b0_1 b0_2:Int) (s7:List E) (b1:Bool) (b1_1 b1_2 b1_3:List I) (b1_4 b1_5:Int):Option Kr:=
 some (b0,b0_1,b0_2,b1,b1_1,b1_2,b1_3,b1_4,b1_5)
abbrev ZI7 (b0:Bool) (b0_1 b0_2:Int) (s7:List E) (i:Nat) (s:Bool×(List I)×(List I)×(List I)×Int×Int):Vh:=(s7,(s7.length:Int),(i:Int),b0,b0_1,b0_2,s.1,s.2.1,s.2.2.1,s.2.2.2.1,s.2.2.2.2.1,s.2.2.2.2.2)
def Zms (b0:Bool) (b0_1 b0_2:Int) (s7:List E) (s:Bool×(List I)×(List I)×(List I)×Int×Int):Option Kr:=Zl (fun i s d=>ZfS b0 b0_1 b0_2 s7 i s.1 s.2.1 s.2.2.1 s.2.2.2.1 s.2.2.2.2.1 s.2.2.2.2.2 d) (fun s=>Zmb b0 b0_1 b0_2 s7 s.1 s.2.1 s.2.2.1 s.2.2.2.1 s.2.2.2.2.1 s.2.2.2.2.2) 0 s7 s
theorem ZIF (b0:Bool) (b0_1 b0_2:Int) (s7:List E) (s:Bool×(List I)×(List I)×(List I)×Int×Int) (hl:s7.length<9223372036854775807):ZgN (s7,(s7.length:Int),0,b0,b0_1,b0_2,s.1,s.2.1,s.2.2.1,s.2.2.2.1,s.2.2.2.2.1,s.2.2.2.2.2)=Zms b0 b0_1 b0_2 s7 s:=by
 unfold ZgN Zms
 refine Zk s7 (ZI7 b0 b0_1 b0_2 s7) _ _ ?_ ?_ s (by unfold Zj;omega)
 ·intro i s d hi hd
  have e1:decide ((i:Int)<(s7.length:Int))=true:=decide_eq_true (by omega)
  have e2:decide (0≤(i:Int))=true:=decide_eq_true (by omega)
  have e3:Int.toNat (i:Int)=i:=Int.toNat_natCast i
  have e4:=Zm hi (Nat.le_of_lt hl)
  show ZcL (s7) ((s7.length:Int)) ((i:Int)) (b0) (b0_1) (b0_2) (s.1) (s.2.1) (s.2.2.1) (s.2.2.2.1) (s.2.2.2.2.1) (s.2.2.2.2.2)=upd _ (ZfS b0 b0_1 b0_2 s7 i s.1 s.2.1 s.2.2.1 s.2.2.2.1 s.2.2.2.2.1 s.2.2.2.2.2 d)
  unfold ZcL ZfS
  simp only [e1,e2,e3,e4,hd,cond_true,cond_false,Zb,Zv,Zy,Zw,ZB,ZC,Zx]
 ·intro s
  have e1:decide ((s7.length:Int)<(s7.length:Int))=false:=decide_eq_false (by omega)
  show ZcL (s7) ((s7.length:Int)) ((s7.length:Int)) (b0) (b0_1) (b0_2) (s.1) (s.2.1) (s.2.2.1) (s.2.2.2.1) (s.2.2.2.2.1) (s.2.2.2.2.2)=_
  unfold ZcL Zmb
  rw [e1]
  rfl
section
open Go.Proofs Go.Proofs.YtbdcblpjemmipaaGreat
def ZHd:List Sh:=[.dat tE,.dat tE,.dat (.sl (.int .i64))]
def ZKT:List Con:=[⟨112,Zzg,ZKM⟩,⟨191,(pickS (isClo 2 158) Zuu Zuv),(Zd.pick (isClo 2 158) ZE0 ZE1)⟩,⟨128,Zqb,ZwX⟩,⟨192,ZwP,ZHZ⟩,⟨109,Zqd,ZwZ⟩]
def Zvb (a0 a1:E) (a2:List Int):Option E:=
 bif !a0.1 then optC (Zov ([a1,a0],())) none fun d4=>some (d4.1,d4.2.1,d4.2.2.1,d4.2.2.2.1,d4.2.2.2.2.1,d4.2.2.2.2.2)
 else
 bif !a1.1 then
 optC (Zov ([a1,a0],())) none fun d4=>some (d4.1,d4.2.1,d4.2.2.1,d4.2.2.2.1,d4.2.2.2.2.1,d4.2.2.2.2.2)
 else
 optC (ZnD (a0.2.1,a1.2.1,((),(a2,()),()),())) none fun d4=>
 optC (ZnD (a0.2.2.1,a1.2.2.1,((),(a2,()),()),())) none fun d5=>
 optC (ZnD (a0.2.2.2.1,a1.2.2.2.1,((),(a2,()),()),())) none fun d6=>
 some
 (true,d4,d5,d6,IntKind.i64.wrap (↑(BitVec.ofInt IntKind.i64.bits a0.2.2.2.2.1 &&& BitVec.ofInt IntKind.i64.bits a1.2.2.2.2.1).toNat:Int),
 IntKind.i64.wrap
 (↑(BitVec.ofInt IntKind.i64.bits (IntKind.i64.wrap (↑(BitVec.ofInt IntKind.i64.bits 0 ||| BitVec.ofInt IntKind.i64.bits a0.2.2.2.2.2).toNat:Int)) |||
 BitVec.ofInt IntKind.i64.bits a1.2.2.2.2.2).toNat :
 Int))
theorem ZSk (a0 a1:E) (a2:List Int):evGX (cxU ZKT [] 40 1048576) keeps 8 113 ZHd (.dat tE) ((a0,a1,a2,()):(E×(E×((List Int)×Unit))))=Zvb a0 a1 a2:=by kernel_rfl
def ZBV (x:(E×(E×((List Int)×Unit)))):Option E:=Zvb x.1 x.2.1 x.2.2.1
def ZHG:List AV→Prog AV:=conP true ZHd (.dat tE) ZBV
theorem ZSQ:Zd Tryz.prog 113 ZHG:=Zc (calU ZKT [] 40 1048576 8 113) true (by rfl) (by rfl) (fun x r e=>(Zg _ _ _ _ _ _ _).trans ((ZSk x.1 x.2.1 x.2.2.1).trans e)) (.inl rfl)
end
section
open Go.Proofs Go.Proofs.YtbdcblpjemmipaaGreat
def ZnQ (a0 a1:E):Option E:=
 bif !a1.1 then bif !a0.1 then some ((false,[],[],[],0,0):E) else some (a0.1,a0.2.1,a0.2.2.1,a0.2.2.2.1,a0.2.2.2.2.1,a0.2.2.2.2.2)
 else
 bif !a0.1 then some (a1.1,a1.2.1,a1.2.2.1,a1.2.2.2.1,a1.2.2.2.2.1,a1.2.2.2.2.2)
 else
 optC (ZlO (a0.2.1,a1.2.1,())) none fun d3=>
 optC (ZlO (a0.2.2.1,a1.2.2.1,())) none fun d4=>
 optC (ZlO (a0.2.2.2.1,a1.2.2.2.1,())) none fun d5=>
 some
 (true,d3,d4,d5,IntKind.i64.wrap (↑(BitVec.ofInt IntKind.i64.bits a0.2.2.2.2.1 &&& BitVec.ofInt IntKind.i64.bits a1.2.2.2.2.1).toNat:Int),
 IntKind.i64.wrap (↑(BitVec.ofInt IntKind.i64.bits a0.2.2.2.2.2 ||| BitVec.ofInt IntKind.i64.bits a1.2.2.2.2.2).toNat:Int))
def ZiH (x:E×(E×Unit)):Option E:=ZnQ x.1 x.2.1
end
section
open Go.Proofs Go.Proofs.YtbdcblpjemmipaaGreat
def ZlU (a0 a1:E) (a2:List Int):Option E:=
 bif !a0.1 then optC (ZiH (a0,a1,())) none fun d4=>some (d4.1,d4.2.1,d4.2.2.1,d4.2.2.2.1,d4.2.2.2.2.1,d4.2.2.2.2.2)
 else
 bif !a1.1 then
 optC (ZiH (a0,a1,())) none fun d4=>some (d4.1,d4.2.1,d4.2.2.1,d4.2.2.2.1,d4.2.2.2.2.1,d4.2.2.2.2.2)
 else
 optC (ZiK (a0.2.1,a1.2.1,a2,())) none fun d4=>
 optC (ZiK (a0.2.2.1,a1.2.2.1,a2,())) none fun d5=>
 optC (ZiK (a0.2.2.2.1,a1.2.2.2.1,a2,())) none fun d6=>
 some
 (true,d4,d5,d6,IntKind.i64.wrap (↑(BitVec.ofInt IntKind.i64.bits a0.2.2.2.2.1 &&& BitVec.ofInt IntKind.i64.bits a1.2.2.2.2.1).toNat:Int),
 IntKind.i64.wrap (↑(BitVec.ofInt IntKind.i64.bits a0.2.2.2.2.2 ||| BitVec.ofInt IntKind.i64.bits a1.2.2.2.2.2).toNat:Int))
def ZwN (x:(E×(E×((List Int)×Unit)))):Option E:=ZlU x.1 x.2.1 x.2.2.1
end
def andI (a b:Int):Int:=IntKind.i64.wrap ((BitVec.ofInt IntKind.i64.bits a &&& BitVec.ofInt IntKind.i64.bits b).toNat:Int)
def orI (a b:Int):Int:=IntKind.i64.wrap ((BitVec.ofInt IntKind.i64.bits a ||| BitVec.ofInt IntKind.i64.bits b).toNat:Int)
def mrg (F:I→I→I) (a b:E):E:=(true,zipI F a.2.1 b.2.1,zipI F a.2.2.1 b.2.2.1,zipI F a.2.2.2.1 b.2.2.2.1,andI a.2.2.2.2.1 b.2.2.2.2.1,orI a.2.2.2.2.2 b.2.2.2.2.2)
def eJoin (F:I→I→I) (a b:E):E:=bif a.1 then (bif b.1 then mrg F a b else a) else bif b.1 then b else offE
def szE (e:E):Prop:=e.2.1.length≤1000∧e.2.2.1.length≤1000∧e.2.2.2.1.length≤1000
theorem Z0c {n:Nat} (h:n≤1000):decide ((0+n+1)*16≤lim)=true:=decide_eq_true (by unfold lim;omega)
theorem ZKp {e:E} (h:szE e):ZsA e=some e:=by
 unfold ZsA
 simp only [List.length_nil,Z0c h.1,Z0c h.2.1,Z0c h.2.2,cond_true,List.nil_append]
theorem ZOL {a b:E} (ha:szE a) (hb:szE b):Zyh [a,b]=some (eJoin iJoin a b):=by
 unfold Zyh
 have:=ZIF false 0 0 [a,b] (false,[],[],[],0,0) (by simp)
 rw [this]
 unfold Zms eJoin
 obtain ⟨on,V,G,A,must,may⟩:=a
 obtain ⟨on',V',G',A',must',may'⟩:=b
 have j1:=ZzL V V' ha.1
 have j2:=ZzL G G' ha.2.1
 have j3:=ZzL A A' ha.2.2
 cases on<;>cases on'<;>simp only [Zl,ZfS,Zmb,Bool.not_false,Bool.not_true,cond_true,cond_false,ZrG,ZKp ha,ZKp hb,Zdl,j1,j2,j3,Zb]
 all_goals first | rfl | simp only [mrg,andI,orI,ZUp]
theorem ZKs {a b:E} (ha:szE a):ZnQ a b=some (eJoin rJoin a b):=by
 unfold ZnQ eJoin
 obtain ⟨on,V,G,A,must,may⟩:=a
 obtain ⟨on',V',G',A',must',may'⟩:=b
 cases on<;>cases on'<;>simp only [Bool.not_false,Bool.not_true,cond_true,cond_false,ZlO,ZwU _ _ ha.1,ZwU _ _ ha.2.1,ZwU _ _ ha.2.2,Zb]
 ·rfl
 ·rfl
theorem ZVJ {a b:E} {st:List Int} (hst:st.length<9223372036854775807) (ha:szE a) (hb:szE b):Zvb a b st=some (eJoin (widF st) a b):=by
 unfold Zvb Zov
 rw [ZOL hb ha]
 unfold eJoin
 obtain ⟨on,V,G,A,must,may⟩:=a
 obtain ⟨on',V',G',A',must',may'⟩:=b
 cases on<;>cases on'<;>simp only [Bool.not_false,Bool.not_true,cond_true,cond_false,ZnD,ZzM _ _ _ hst ha.1,ZzM _ _ _ hst ha.2.1,ZzM _ _ _ hst ha.2.2,Zb]
 simp only [mrg,andI,orI,ZUp]
theorem ZSh {a b:E} {st:List Int} (hst:st.length<9223372036854775807) (ha:szE a):ZlU a b st=some (eJoin (rwidF st) a b):=by
 unfold ZlU ZiH
 rw [ZKs ha]
 unfold eJoin
 obtain ⟨on,V,G,A,must,may⟩:=a
 obtain ⟨on',V',G',A',must',may'⟩:=b
 cases on<;>cases on'<;>simp only [Bool.not_false,Bool.not_true,cond_true,cond_false,ZiK,ZuQ _ _ _ hst ha.1,ZuQ _ _ _ hst ha.2.1,ZuQ _ _ _ hst ha.2.2,Zb]
 simp only [mrg,andI,orI]
structure okA (e:En):Prop where
 v:isB (vl e)=true
 h:0≤e.2.2.2.1∧e.2.2.2.1<2147483648
theorem entOK.a {e:En} (h:entOK e):okA e:=⟨h.v,h.h⟩
def okF (f:I→I→I):Prop:=∀ u v,isB u=true→empB u=false→isB v=true→empB v=false→isB (f u v)=true∧empB (f u v)=false
theorem ZNL:okF iJoin:=fun u v hu eu hv ev=>⟨by rw [Zc2 hv];exact ZkA hu hv,by rw [ZNy,eu];rfl⟩
theorem ZZs {f:I→I→I} (hf:okF f) {l:List En} {e:En} (hl:∀ x∈l,entOK x) (he:okA e):∀ x∈stpT f l e,entOK x:=by
 unfold stpT
 cases hE:empB (vl e)
 case true=>simpa using hl
 simp only [Bool.false_eq_true,if_false]
 intro x hx
 rcases ZP8 hx with h | rfl | ⟨d,hd,hk,rfl⟩
 ·exact hl x h
 ·exact ⟨he.v,hE,he.h⟩
 ·have k:=hl d hd
  obtain ⟨h1,h2⟩:=hf (vl d) (vl e) k.v k.n he.v hE
  exact ⟨h1,h2,k.h⟩
theorem ZYn {f:I→I→I} (hf:okF f):∀ {es l:List En},(∀ x∈l,entOK x)→(∀ x∈es,okA x)→∀ x∈addT f l es,entOK x
 | [],l,hl,_=>hl
 | e::r,l,hl,h=>ZYn hf (es:=r) (ZZs hf hl (h e (List.mem_cons_self ..))) fun x hx=>h x (List.mem_cons_of_mem _ hx)
theorem ZRK {f g:I→I→I} (h:∀ u v,isB u=true→empB u=false→isB v=true→empB v=false→f u v=g u v) {e:En} (he:isB (vl e)=true) (hE:empB (vl e)=false):∀ {l:List En},(∀ x∈l,entOK x)→pinT f e l=pinT g e l
 | [],_=>rfl
 | d::r,hl=>by
  have k:=hl d (List.mem_cons_self ..)
  unfold pinT
  rw [ZRK h he hE (l:=r) fun x hx=>hl x (List.mem_cons_of_mem _ hx),h (vl d) (vl e) k.v k.n he hE]
theorem ZQ7 {f g:I→I→I} (hf:okF f) (h:∀ u v,isB u=true→empB u=false→isB v=true→empB v=false→f u v=g u v):∀ {es l:List En},(∀ x∈l,entOK x)→(∀ x∈es,okA x)→addT f l es=addT g l es
 | [],l,_,_=>rfl
 | e::r,l,hl,k=>by
  have he:=k e (List.mem_cons_self ..)
  have hs:stpT f l e=stpT g l e:=by
   unfold stpT
   cases hE:empB (vl e)
   ·simp only [Bool.false_eq_true,if_false];exact ZRK h he.v hE hl
   ·rfl
  show addT f (stpT f l e) r=addT g (stpT g l e) r
  rw [← hs]
  exact ZQ7 hf h (ZZs hf hl he) fun x hx=>k x (List.mem_cons_of_mem _ hx)
theorem ZTo {l es:List En} (hl:∀ x∈l,entOK x) (he:∀ x∈es,okA x):addT iJoin l es=addT rJoin l es:=
 ZQ7 ZNL (fun u v _ _ hv _=>Zc2 hv) hl he
theorem Z0G {l:List En} (h:∀ x∈l,entOK x) (hs:srt l):tabOK l:=ZRy (ZT0 h hs)
theorem ZXm {f:I→I→I} (hf:okF f) {a b:List En} (ha:tabOK a) (hb:∀ x∈b,okA x):tabOK (addT f a b):=Z0G (ZYn hf ha.e hb) (ZyI ha.srt)
section
open Go.Proofs Go.Proofs.YtbdcblpjemmipaaGreat
def ZrN:List Sh:=[.dat (.sl tI),.dat (.sl tI)]
def ZeX:Nat→List Nat:=fun c=>bif c.beq 0 then [0,1,12,13] else [4]
def Zf3:List Con:=[]
def Qd:StS:=⟨[(0,.sl tI),(1,.sl tI),(12,.int .i64),(13,.int .i64)],[],0⟩
def Qs:StS:=⟨[(4,.undef)],[],0⟩
def Qt:StS:=⟨[(4,.bool)],[],0⟩
abbrev Qc:=((List I)×(List I)×Int×Int)
def Zj4:StD Qd→Qc:=fun ((a,b,c,d,_),_)=>(a,b,c,d)
def ZdE:Qc→StD Qd:=fun (a,b,c,d)=>((a,b,c,d,()),())
abbrev ZY:=Unit
def Ztz (d:StD Qs):ZY:=()
def Zcs (x:ZY):StD Qs:=(((),()),())
abbrev ZZ:=Bool
def ZtA (d:StD Qt):ZZ:=(d.1.1)
def Zct (x:ZZ):StD Qt:=((x,()),())
def Ke (s0 s1:List I) (s12 s13:Int):Option (((List I)×(List I)×Int×Int)⊕(Unit⊕Bool)):=
 bif decide (s13<s12) then
 bif decide (0≤s13) then
 optC s0[s13.toNat]? none fun d6=>
 bif decide (0≤s13) then
 optC s1[s13.toNat]? none fun d7=>
 bif !(d6.1==d7.1&&d6.2==d7.2) then some (Sum.inr (Sum.inr false)) else some (Sum.inl (s0,s1,s12,IntKind.i64.wrap (s13+1)))
 else none
 else none
 else some (Sum.inr (Sum.inl PUnit.unit))
def Zdz:Qc→Option (Qc⊕(ZY⊕ZZ)):=fun (a,b,c,d)=>Ke a b c d
theorem ZwD (x:Qc):rdX (cxU Zf3 [] 40 1048576) keeps 8 ⟨160,26,keeps 160,0⟩ 0 (bodyX 160 0) 0 ZeX (sT Qd (ZdE x)) (sH Qd (ZdE x)) (rdO (fun T h=>(rdS Qd T h).map Zj4) (getOr (getE 2 Qs Ztz) (getE 1 Qt ZtA)))=Zdz x:=by kernel_rfl
def ZaA (x:Qc):Option (ZY⊕ZZ):=iterO Zdz Zj x
def Zoi:Nat→Tm→Prog (Nat×Tm):=(varP 0 (fun T h=>(rdS Qd T h).map Zj4) ZaA (fun y=>.alt y (altE 2 Qs Zcs) (altE 1 Qt Zct)) (fun _ _=>.fail))
def Znv:Lpc:=⟨160,0,26,(fun base T=>.norm base (ZeX 0) T (Zoi base)),by kernel_rfl,by kernel_rfl,(loopU Zf3 [] 40 1048576 8 (keep:=ZeX) (q:=Zoi) (by kernel_rfl) (Zp (s:=Qd) (un:=ZdE) (by rfl) (fun _=>rfl) (ZR (Zi (s:=Qs) (un:=Zcs) (by rfl) (fun _=>rfl)) (Zi (s:=Qt) (un:=Zct) (by rfl) (fun _=>rfl))) (step:=Zdz) ZwD (fun _ _ e=>⟨_,e⟩) (ZQ (Zh 2 Qs Zcs) (Zh 1 Qt Zct)) (ZA.fail _ _)))⟩
def Zg5 (a0 a1:List I):Option Bool:=
 bif (↑a0.length:Int) !=(↑a1.length:Int) then some false
 else optC (ZaA (a0,a1,(↑a0.length:Int),0)) none fun d4=>Sum.elim (fun e5=>some true) (fun e5=>some e5) d4
theorem ZF1 (a0 a1:List I):evGX (cxU Zf3 [Znv] 40 1048576) keeps 8 160 ZrN (.dat .bool) ((a0,a1,()):((List I)×((List I)×Unit)))=Zg5 a0 a1:=by kernel_rfl
def Zdo (x:((List I)×((List I)×Unit))):Option Bool:=Zg5 x.1 x.2.1
def ZrV:List AV→Prog AV:=conP true ZrN (.dat .bool) Zdo
theorem ZGX:Zd Tryz.prog 160 ZrV:=Zc (calU Zf3 [Znv] 40 1048576 8 160) true (by rfl) (by rfl) (fun x r e=>(Zg _ _ _ _ _ _ _).trans ((ZF1 x.1 x.2.1).trans e)) (.inl rfl)
end
def WM (s1 s0:List I) (i:Nat)  (d:I):Option (Unit⊕(ZY⊕ZZ)):=
 optC s1[i]? (none) fun d7=>
  bif !(d.1==d7.1&&d.2==d7.2) then
  some (Sum.inr (Sum.inr false))
 else some (Sum.inl ())
def Zj5 (s1 s0:List I):Option (ZY⊕ZZ):=
 some (Sum.inl PUnit.unit)
abbrev ZwE (s1 s0:List I) (i:Nat) (s:Unit):Qc:=(s0,s1,(s0.length:Int),(i:Int))
def Zj9 (s1 s0:List I) (s:Unit):Option (ZY⊕ZZ):=Zl (fun i s d=>WM s1 s0 i  d) (fun s=>Zj5 s1 s0 ) 0 s0 s
theorem ZwC (s1 s0:List I) (s:Unit) (hl:s0.length<9223372036854775807):ZaA (s0,s1,(s0.length:Int),0)=Zj9 s1 s0 s:=by
 unfold ZaA Zj9
 refine Zk s0 (ZwE s1 s0) _ _ ?_ ?_ s (by unfold Zj;omega)
 ·intro i s d hi hd
  have e1:decide ((i:Int)<(s0.length:Int))=true:=decide_eq_true (by omega)
  have e2:decide (0≤(i:Int))=true:=decide_eq_true (by omega)
  have e3:Int.toNat (i:Int)=i:=Int.toNat_natCast i
  have e4:=Zm hi (Nat.le_of_lt hl)
  show Ke (s0) (s1) ((s0.length:Int)) ((i:Int))=upd _ (WM s1 s0 i  d)
  unfold Ke WM
  simp only [e1,e2,e3,e4,hd,cond_true,cond_false,Zb,Zv,Zy,Zw,ZB,ZC,Zx]
 ·intro s
  have e1:decide ((s0.length:Int)<(s0.length:Int))=false:=decide_eq_false (by omega)
  show Ke (s0) (s1) ((s0.length:Int)) ((s0.length:Int))=_
  unfold Ke Zj5
  rw [e1]
  rfl
section
open Go.Proofs Go.Proofs.YtbdcblpjemmipaaGreat
def ZJo:List Sh:=[.dat tE,.dat tE]
def ZMV:List Con:=[⟨160,ZrV,ZGX⟩]
def Zyi (a0 a1:E):Option Bool:=
 bif !a0.1 then some (a0.1==a1.1)
 else
 bif !a1.1 then some (a0.1==a1.1)
 else
 optC (Zdo (a0.2.1,a1.2.1,())) none fun d3=>
 bif d3 then
 optC (Zdo (a0.2.2.1,a1.2.2.1,())) none fun d4=>
 bif d4 then
 optC (Zdo (a0.2.2.2.1,a1.2.2.2.1,())) none fun d5=>
 bif d5 then bif a0.2.2.2.2.1==a1.2.2.2.2.1 then some (a0.2.2.2.2.2==a1.2.2.2.2.2) else some false
 else some false
 else some false
 else some false
theorem ZUw (a0 a1:E):evGX (cxU ZMV [] 40 1048576) keeps 8 114 ZJo (.dat .bool) ((a0,a1,()):(E×(E×Unit)))=Zyi a0 a1:=by kernel_rfl
def ZrF (x:E×(E×Unit)):Option Bool:=Zyi x.1 x.2.1
def ZJN:List AV→Prog AV:=conP true ZJo (.dat .bool) ZrF
theorem ZVa:Zd Tryz.prog 114 ZJN:=Zc (calU ZMV [] 40 1048576 8 114) true (by rfl) (by rfl) (fun x r e=>(Zg _ _ _ _ _ _ _).trans ((ZUw x.1 x.2.1).trans e)) (.inl rfl)
end
section
open Go.Proofs
variable {u:U} {t:Int} {a b:E}
theorem ZzO:∀ x y,isB x=true∧empB x=false→isB y=true→isB (iJoin x y)=true∧empB (iJoin x y)=false:=fun x y hx hy=>⟨ZPY hx.1 hy,by rw [ZNy,hx.2];rfl⟩
theorem ZP7 (st:List Int):∀ x y,isB x=true∧empB x=false→isB y=true→isB (widF st x y)=true∧empB (widF st x y)=false:=fun x y hx hy=>by
 obtain ⟨h1,h2,h3,_⟩:=ZHa hx.1 hy st
 exact ⟨h3,(Zem h1 hx.2).2⟩
theorem Z2x {x y:Int} (hx:okB x) (hy:okB y):okB (andI x y):=by
 unfold okB at *
 have h:=ZFn (a:=x.toNat) (b:=y.toNat) (by omega) (by omega)
 have e1:((x.toNat:Nat):Int)=x:=by omega
 have e2:((y.toNat:Nat):Int)=y:=by omega
 rw [e1,e2] at h
 unfold andI
 rw [h]
 have:=Nat.and_le_left (n:=x.toNat) (m:=y.toNat)
 omega
theorem Z4s {x y:Int} (hx:okB x) (hy:okB y):okB (orI x y):=by
 unfold okB at *
 have h:=ZUr (a:=x.toNat) (b:=y.toNat) (by omega) (by omega)
 have e1:((x.toNat:Nat):Int)=x:=by omega
 have e2:((y.toNat:Nat):Int)=y:=by omega
 rw [e1,e2] at h
 unfold orI
 rw [h]
 have:=Nat.or_lt_two_pow (x:=x.toNat) (y:=y.toNat) (n:=31) (by omega) (by omega)
 omega
theorem Z2U {F:I→I→I} (hF:∀ x y,isB x=true∧empB x=false→isB y=true→isB (F x y)=true∧empB (F x y)=false) (ha:envOK u t a) (hb:envOK u t b):envOK u t (mrg F a b):=
 ZDL ha (ZyV _ _ _) (ZyV _ _ _) (ZyV _ _ _) (ZVv hF (envV ha) fun x k=>(envV hb x k).1) (ZVv hF (envG ha) fun x k=>(envG hb x k).1) (ZVv hF (envA ha) fun x k=>(envA hb x k).1) (Z2x ha.must hb.must) (Z4s ha.may hb.may)
theorem ZnK {F:I→I→I} (hF:∀ x y,isB x=true∧empB x=false→isB y=true→isB (F x y)=true∧empB (F x y)=false) (ha:a.1=true→envOK u t a) (hb:b.1=true→envOK u t b):(eJoin F a b).1=true→envOK u t (eJoin F a b):=by
 unfold eJoin
 cases ea:a.1<;>cases eb:b.1
 ·exact fun k=>nomatch k
 ·exact fun _=>hb eb
 ·exact fun _=>ha ea
 ·exact fun _=>Z2U hF (ha ea) (hb eb)
theorem ZTC {F G:I→I→I} (h:∀ x y,isB x=true→isB y=true→F x y=G x y) (ha:a.1=true→envOK u t a) (hb:b.1=true→envOK u t b):eJoin F a b=eJoin G a b:=by
 unfold eJoin
 cases ea:a.1<;>cases eb:b.1<;>simp only [cond_true,cond_false]
 have ha:=ha ea
 have hb:=hb eb
 unfold mrg
 rw [ZVu h (fun x k=>(envV ha x k).1) fun x k=>(envV hb x k).1,ZVu h (fun x k=>(envG ha x k).1) fun x k=>(envG hb x k).1,ZVu h (fun x k=>(envA ha x k).1) fun x k=>(envA hb x k).1]
theorem ZrW (hu:unitOK u) (h:envOK u t a):szE a:=by
 obtain ⟨c,hc,hv⟩:=h.c
 have cv:=(hu.ts c (List.mem_of_getElem? hc)).v
 refine ⟨by omega,by rw [h.g];have:=hu.g;omega,by rw [h.a];have:=hu.a;omega⟩
theorem ZU4 {α:Type} {q:α→α→Bool} (hq:∀ x y,q x y=true↔x=y) [DecidableEq α] {f:Nat→Unit→α→Option (Unit⊕(Unit⊕Bool))} {b:List α} (h:∀ j d,f j () d=optC b[j]? none fun e=>bif !(q d e) then some (.inr (.inr false)) else some (.inl ())) :
  ∀ (a:List α) (j:Nat),j+a.length=b.length→Zl f (fun _=>some (.inl ())) j a ()=some (bif decide (a=b.drop j) then .inl () else .inr false)
 | [],j,hl=>by
  have:b.drop j=[]:=List.drop_eq_nil_of_le (by simp at hl;omega)
  rw [this];rfl
 | d::r,j,hl=>by
  rw [List.length_cons] at hl
  have hj:j<b.length:=by omega
  have hd:b.drop j=b[j]::b.drop (j+1):=List.drop_eq_getElem_cons hj
  rw [hd]
  simp only [Zl,h,List.getElem?_eq_getElem hj,Zb]
  cases e:q d b[j]
  ·have:d≠b[j]:=fun k=>by rw [(hq _ _).2 k] at e;cases e
   rw [decide_eq_false (fun k=>this (List.cons.inj k).1)];rfl
  ·have ed:=(hq _ _).1 e
   simp only [Bool.not_true,cond_false]
   have ih:=ZU4 hq h r (j+1) (by omega)
   rw [ih]
   congr 2
   rw [decide_eq_decide]
   exact ⟨fun k=>by rw [k,← ed],fun k=>(List.cons.inj k).2⟩
theorem ZWX {α:Type} {q:α→α→Bool} (hq:∀ x y,q x y=true↔x=y) [DecidableEq α] {g:Option Bool} {a b:List α} {f:Nat→Unit→α→Option (Unit⊕(Unit⊕Bool))} (h:∀ j d,f j () d=optC b[j]? none fun e=>bif !(q d e) then some (.inr (.inr false)) else some (.inl ()))
  (hg:g=bif (a.length:Int) !=(b.length:Int) then some false else optC (Zl f (fun _=>some (.inl ())) 0 a ()) none fun d4=>Sum.elim (fun _=>some true) (fun e5=>some e5) d4):g=some (decide (a=b)):=by
 rw [hg]
 by_cases hl:a.length=b.length
 ·rw [show ((a.length:Int) !=(b.length:Int))=false by simp [hl],ZU4 hq h a 0 (by omega),List.drop_zero]
  cases decide (a=b)<;>rfl
 ·rw [show ((a.length:Int) !=(b.length:Int))=true by simp;omega,decide_eq_false (fun e=>hl (by rw [e]))];rfl
def Z2F (x y:I):Bool:=x.1==y.1&&x.2==y.2
theorem ZTE (x y:I):Z2F x y=true↔x=y:=by simp [Z2F,Prod.ext_iff]
theorem Zoe (a b:List I) (ha:a.length≤1000):Zg5 a b=some (decide (a=b)):=
 ZWX ZTE (f:=fun i _ d=>WM b a i d) (fun j d=>rfl) (by
  unfold Zg5
  rw [ZwC b a () (by omega)];rfl)
theorem ZwV (a b:List I) (ha:a.length≤1000):Zi1 a b=some (decide (a=b)):=
 ZWX ZTE (f:=fun i _ d=>ZbO b a i d) (fun j d=>rfl) (by
  unfold Zi1
  rw [Ztb b a () (by omega)];rfl)
def sameE (a b:E):Bool:=bif a.1&&b.1 then decide (a.2.1=b.2.1)&&(decide (a.2.2.1=b.2.2.1)&&(decide (a.2.2.2.1=b.2.2.2.1)&&(a.2.2.2.2.1==b.2.2.2.2.1&&a.2.2.2.2.2==b.2.2.2.2.2))) else a.1==b.1
theorem ZOM {a b:E} (ha:a.1=true→szE a):Zyi a b=some (sameE a b):=by
 unfold Zyi sameE Zdo
 obtain ⟨on,V,G,A,must,may⟩:=a
 cases on
 ·cases b.1<;>rfl
 ·have ha:=ha rfl
  cases b.1
  ·rfl
  ·simp only [Bool.not_true,cond_false,Bool.true_and,cond_true,Zoe _ _ ha.1,Zoe _ _ ha.2.1,Zoe _ _ ha.2.2,Zb]
   cases decide (V=b.2.1)<;>cases decide (G=b.2.2.1)<;>cases decide (A=b.2.2.2.1)<;>cases (must==b.2.2.2.2.1)<;>rfl
theorem ZwT {a b:E} (ha:a.1=true→szE a):ZiZ a b=some (sameE a b):=by
 unfold ZiZ sameE ZiJ
 obtain ⟨on,V,G,A,must,may⟩:=a
 cases on
 ·cases b.1<;>rfl
 ·have ha:=ha rfl
  cases b.1
  ·rfl
  ·simp only [Bool.not_true,cond_false,Bool.true_and,cond_true,ZwV _ _ ha.1,ZwV _ _ ha.2.1,ZwV _ _ ha.2.2,Zb]
   cases decide (V=b.2.1)<;>cases decide (G=b.2.2.1)<;>cases decide (A=b.2.2.2.1)<;>cases (must==b.2.2.2.2.1)<;>rfl
end
section
open Go.Proofs Go.Proofs.YtbdcblpjemmipaaGreat
def ZHe:List Sh:=[.dat (.int .i64)]
def ZKU:List Con:=[]
def Zvc (a0:Int):Option (List I):=
 bif decide ((0≤if 0>a0 then 0 else a0)∧((if 0>a0 then 0 else a0)=if 0>a0 then 0 else a0)∧(Int.toNat (if (0:Int)>a0 then 0 else a0))*(16+1)≤lim) then
 some (List.replicate (Int.toNat (if (0:Int)>a0 then 0 else a0)) (0,0))
 else none
theorem ZSl (a0:Int):evGX (cxU ZKU [] 40 1048576) keeps 8 78 ZHe (.dat (.sl tI)) ((a0,()):(Int×Unit))=Zvc a0:=by kernel_rfl
def Zu5 (x:Int×Unit):Option (List I):=Zvc x.1
def ZHH:List AV→Prog AV:=conP true ZHe (.dat (.sl tI)) Zu5
theorem ZSR:Zd Tryz.prog 78 ZHH:=Zc (calU ZKU [] 40 1048576 8 78) true (by rfl) (by rfl) (fun x r e=>(Zg _ _ _ _ _ _ _).trans ((ZSl x.1).trans e)) (.inl rfl)
end
section
open Go.Proofs Go.Proofs.YtbdcblpjemmipaaGreat
abbrev ZAn:Type:=((List Int)×Int×Int×Bool×Int×Int×Bool×(List I)×(List I)×Int×Int×(List I))
def ZHc:List Sh:=[.dat tU,.dat (.int .i64)]
def Ziv:Nat→List Nat:=fun c=>bif c.beq 0 then [4,5,33,34,35] else [4,5]
def Zti:List Con:=[⟨77,Zzh,ZKN⟩,⟨78,ZHH,ZSR⟩,⟨79,ZFs,ZPj⟩]
def VH:StS:=⟨[(4,.ptr 0 0),(5,.ptr 1 0),(33,.sl (.int .i64)),(34,.int .i64),(35,.int .i64)],[(0,.box [.bool,.nil,.nil,.nil,.int .i64,.int .i64]),(1,.box [.bool,.sl tI,.row 2,.sl tI,.int .i64,.int .i64]),(2,.row tI)],3⟩
def Wh:StS:=⟨[(4,.ptr 0 0),(5,.ptr 1 0)],[(0,.box [.bool,.nil,.nil,.nil,.int .i64,.int .i64]),(1,.box [.bool,.sl tI,.row 2,.sl tI,.int .i64,.int .i64]),(2,.row tI)],3⟩
abbrev Vg:=ZAn
def ZtR:StD VH→Vg:=fun ((_,_,a,b,c,_),((d,_,_,_,e,f,_),(g,h,_,i,j,k,_),l,_))=>(a,b,c,d,e,f,g,h,i,j,k,l)
def ZmS:Vg→StD VH:=fun (a,b,c,d,e,f,g,h,i,j,k,l)=>(((),(),a,b,c,()),((d,(),(),(),e,f,()),(g,h,(),i,j,k,()),l,()))
abbrev Kq:=(Bool×Int×Int×Bool×(List I)×(List I)×Int×Int×(List I))
def ZDQ:StD Wh→Kq:=fun ((_,_,_),((a,_,_,_,b,c,_),(d,e,_,f,g,h,_),i,_))=>(a,b,c,d,e,f,g,h,i)
def ZjC:Kq→StD Wh:=fun (a,b,c,d,e,f,g,h,i)=>(((),(),()),((a,(),(),(),b,c,()),(d,e,(),f,g,h,()),i,()))
def ZcK (s33:List Int) (s34 s35:Int) (b0:Bool) (b0_1 b0_2:Int) (b1:Bool) (b1_1 b1_2:List I) (b1_3 b1_4:Int) (b2:List I):Option (ZAn⊕(Bool×Int×Int×Bool×(List I)×(List I)×Int×Int×(List I))):=
 bif decide (s35<s34) then
 bif decide (0≤s35) then
 optC s33[s35.toNat]? none fun d14=>
 optC (Zuq ([d14],())) none fun d15=>
 bif decide ((b2.length+[d15].length+1)*16≤lim) then
 some (Sum.inl (s33,s34,IntKind.i64.wrap (s35+1),b0,b0_1,b0_2,b1,b1_1,b1_2,b1_3,b1_4,b2++[d15]))
 else none
 else none
 else some (Sum.inr (b0,b0_1,b0_2,b1,b1_1,b1_2,b1_3,b1_4,b2))
def ZmE:Vg→Option (Vg⊕Kq):=fun (a,b,c,d,e,f,g,h,i,j,k,l)=>ZcK a b c d e f g h i j k l
theorem ZIR (x:Vg):rdX (cxU Zti [] 40 1048576) keeps 8 ⟨50,49,keeps 50,0⟩ 0 (bodyX 50 0) 0 Ziv (sT VH (ZmS x)) (sH VH (ZmS x)) (rdO (fun T h=>(rdS VH T h).map ZtR) (getE 2 Wh ZDQ))=ZmE x:=by kernel_rfl
def ZgM (x:Vg):Option Kq:=iterO ZmE Zj x
def ZzU:Nat→Tm→Prog (Nat×Tm):=(varP 0 (fun T h=>(rdS VH T h).map ZtR) ZgM (altE 2 Wh ZjC) (fun _ _=>.fail))
def Zxn:Lpc:=⟨50,0,49,(ownP [(1,2,tI)] [] (Ziv 0) (fun base T=>.norm base (Ziv 0) T (ZzU base))),by kernel_rfl,by kernel_rfl,(WQ (loopU Zti [] 40 1048576 8 (keep:=Ziv) (q:=ZzU) (by kernel_rfl) (Zp (s:=VH) (un:=ZmS) (by rfl) (fun _=>rfl) (Zi (s:=Wh) (un:=ZjC) (by rfl) (fun _=>rfl)) (step:=ZmE) ZIR (fun _ _ e=>⟨_,e⟩) (Zh 2 Wh ZjC) (ZA.fail _ _))))⟩
def Zva (a0:U) (a1:Int):Option E:=
 bif decide (a1<0) then some ((false,[],[],[],0,0):E)
 else
 bif decide (a1≥(↑(List.length a0.2.2.2):Int)) then some ((false,[],[],[],0,0):E)
 else
 bif decide (0≤a1) then
 optC a0.2.2.2[a1.toNat]? none fun d4=>
 optC (Zu5 (d4.1,())) none fun d5=>
 optC (Zu5 ((↑(List.length a0.2.1):Int),())) none fun d6=>
 optC (ZgM (a0.1,(↑(List.length a0.1):Int),0,false,0,0,true,d5,d6,0,0,[])) none fun d7=>
 some
 (d7.2.2.2.1,d7.2.2.2.2.1,d7.2.2.2.2.2.2.2.2,d7.2.2.2.2.2.1,d7.2.2.2.2.2.2.1,d7.2.2.2.2.2.2.2.1)
 else none
theorem ZSj (a0:U) (a1:Int):evGX (cxU Zti [Zxn] 40 1048576) keeps 8 50 ZHc (.dat tE) ((a0,a1,()):(U×(Int×Unit)))=Zva a0 a1:=by kernel_rfl
def ZpK (x:U×(Int×Unit)):Option E:=Zva x.1 x.2.1
def ZwO:List AV→Prog AV:=conP true ZHc (.dat tE) ZpK
theorem ZHY:Zd Tryz.prog 50 ZwO:=Zc (calU Zti [Zxn] 40 1048576 8 50) true (by rfl) (by rfl) (fun x r e=>(Zg _ _ _ _ _ _ _).trans ((ZSj x.1 x.2.1).trans e)) (.inl rfl)
end
def ZfR (b0:Bool) (b0_1 b0_2:Int) (b1:Bool) (b1_1 b1_2:List I) (b1_3 b1_4:Int) (s33:List Int) (i:Nat) (b2:List I) (d:Int):Option ((List I)⊕Kq):=
 optC (Zuq ([d],())) (none) fun d15=>
  bif decide ((b2.length+[d15].length+1)*16≤lim) then
  some (Sum.inl (b2++[d15]))
 else none
def Zt6 (b0:Bool) (b0_1 b0_2:Int) (b1:Bool) (b1_1 b1_2:List I) (b1_3 b1_4:Int) (s33:List Int) (b2:List I):Option Kq:=
 some (b0,b0_1,b0_2,b1,b1_1,b1_2,b1_3,b1_4,b2)
abbrev ZI6 (b0:Bool) (b0_1 b0_2:Int) (b1:Bool) (b1_1 b1_2:List I) (b1_3 b1_4:Int) (s33:List Int) (i:Nat) (s:List I):Vg:=(s33,(s33.length:Int),(i:Int),b0,b0_1,b0_2,b1,b1_1,b1_2,b1_3,b1_4,s)
def Zmr (b0:Bool) (b0_1 b0_2:Int) (b1:Bool) (b1_1 b1_2:List I) (b1_3 b1_4:Int) (s33:List Int) (s:List I):Option Kq:=Zl (fun i s d=>ZfR b0 b0_1 b0_2 b1 b1_1 b1_2 b1_3 b1_4 s33 i s d) (fun s=>Zt6 b0 b0_1 b0_2 b1 b1_1 b1_2 b1_3 b1_4 s33 s) 0 s33 s
theorem ZIE (b0:Bool) (b0_1 b0_2:Int) (b1:Bool) (b1_1 b1_2:List I) (b1_3 b1_4:Int) (s33:List Int) (s:List I) (hl:s33.length<9223372036854775807):ZgM (s33,(s33.length:Int),0,b0,b0_1,b0_2,b1,b1_1,b1_2,b1_3,b1_4,s)=Zmr b0 b0_1 b0_2 b1 b1_1 b1_2 b1_3 b1_4 s33 s:=by
 unfold ZgM Zmr
 refine Zk s33 (ZI6 b0 b0_1 b0_2 b1 b1_1 b1_2 b1_3 b1_4 s33) _ _ ?_ ?_ s (by unfold Zj;omega)
 ·intro i s d hi hd
  have e1:decide ((i:Int)<(s33.length:Int))=true:=decide_eq_true (by omega)
  have e2:decide (0≤(i:Int))=true:=decide_eq_true (by omega)
  have e3:Int.toNat (i:Int)=i:=Int.toNat_natCast i
  have e4:=Zm hi (Nat.le_of_lt hl)
  show ZcK (s33) ((s33.length:Int)) ((i:Int)) (b0) (b0_1) (b0_2) (b1) (b1_1) (b1_2) (b1_3) (b1_4) (s)=upd _ (ZfR b0 b0_1 b0_2 b1 b1_1 b1_2 b1_3 b1_4 s33 i s d)
  unfold ZcK ZfR
  simp only [e1,e2,e3,e4,hd,cond_true,cond_false,Zb,Zv,Zy,Zw,ZB,ZC,Zx]
 ·intro s
  have e1:decide ((s33.length:Int)<(s33.length:Int))=false:=decide_eq_false (by omega)
  show ZcK (s33) ((s33.length:Int)) ((s33.length:Int)) (b0) (b0_1) (b0_2) (b1) (b1_1) (b1_2) (b1_3) (b1_4) (s)=_
  unfold ZcK Zt6
  rw [e1]
  rfl
section
open Go.Proofs Go.Proofs.YtbdcblpjemmipaaGreat
abbrev ZwI:Type:=(Int×(List Int)×(List Int)×Int×(List C)×Bool×Int×Int×Bool×Int×Int×(List I)×(List I)×(List I))
abbrev ZwJ:Type:=(Int×(List Int)×(List Int)×Int×(List C)×Bool×Int×Int×Bool×Int×Int×(List I)×(List I))
abbrev ZwK:Type:=(Int×Int×(List Int)×(List Int)×Int×(List C)×Bool×Int×Int×Bool×Int×Int×(List I))
abbrev ZwL:Type:=((List Int)×(List Int)×Int×(List C)×Bool×Int×Int×Bool×Int×Int×(List I)×(List I))
abbrev Kz:=ZwK
abbrev Zc8:=((List Int)×(List Int)×Int×(List C)×Bool×Int×Int×Bool×Int×Int×(List I))
def Hx (s1 s6:Int) (b0 b0_1:List Int) (b0_2:Int) (b0_3:List C) (b1:Bool) (b1_1 b1_2:Int) (b2:Bool) (b2_1 b2_2:Int) (b3:List I):Option (ZwK⊕((List Int)×(List Int)×Int×(List C)×Bool×Int×Int×Bool×Int×Int×(List I))):=
 bif decide (0≤s1) then
 optC b0_3[s1.toNat]? none fun d17=>
 bif decide (s6<d17.1) then
 bif decide ((b3.length+[(0,0)].length+1)*16≤lim) then
 some (Sum.inl (s1,IntKind.i64.wrap (s6+1),b0,b0_1,b0_2,b0_3,b1,b1_1,b1_2,b2,b2_1,b2_2,b3++[(0,0)]))
 else none
 else some (Sum.inr (b0,b0_1,b0_2,b0_3,b1,b1_1,b1_2,b2,b2_1,b2_2,b3))
 else none
def Zjp:Kz→Option (Kz⊕Zc8):=fun (a,b,c,d,e,f,g,h,i,j,k,l,m)=>Hx a b c d e f g h i j k l m
def ZeA (x:Kz):Option Zc8:=iterO Zjp Zj x
abbrev KA:=ZwJ
abbrev Ja:=ZwL
def Zbi (s7:Int) (b0 b0_1:List Int) (b0_2:Int) (b0_3:List C) (b1:Bool) (b1_1 b1_2:Int) (b2:Bool) (b2_1 b2_2:Int) (b3 b4:List I):Option (ZwJ⊕ZwL):=
 bif decide (s7<(↑b0.length:Int)) then
 bif decide (0≤s7) then
 optC b0[s7.toNat]? none fun d17=>
 bif decide ((b4.length+[(d17,d17)].length+1)*16≤lim) then
 some (Sum.inl (IntKind.i64.wrap (s7+1),b0,b0_1,b0_2,b0_3,b1,b1_1,b1_2,b2,b2_1,b2_2,b3,b4++[(d17,d17)]))
 else none
 else none
 else some (Sum.inr (b0,b0_1,b0_2,b0_3,b1,b1_1,b1_2,b2,b2_1,b2_2,b3,b4))
def Zjq:KA→Option (KA⊕Ja):=fun (a,b,c,d,e,f,g,h,i,j,k,l,m)=>Zbi a b c d e f g h i j k l m
def ZeB (x:KA):Option Ja:=iterO Zjq Zj x
abbrev KB:=ZwI
abbrev Jb:=(Bool×Int×Int×Bool×Int×Int×(List I)×(List I)×(List I))
def Zbj (s8:Int) (b0 b0_1:List Int) (b0_2:Int) (b0_3:List C) (b1:Bool) (b1_1 b1_2:Int) (b2:Bool) (b2_1 b2_2:Int) (b3 b4 b5:List I):Option (ZwI⊕(Bool×Int×Int×Bool×Int×Int×(List I)×(List I)×(List I))):=
 bif decide (s8<(↑b0_1.length:Int)) then
 bif decide ((b5.length+[(0,0)].length+1)*16≤lim) then
 some (Sum.inl (IntKind.i64.wrap (s8+1),b0,b0_1,b0_2,b0_3,b1,b1_1,b1_2,b2,b2_1,b2_2,b3,b4,b5++[(0,0)]))
 else none
 else some (Sum.inr (b1,b1_1,b1_2,b2,b2_1,b2_2,b3,b4,b5))
def Zjr:KB→Option (KB⊕Jb):=fun (a,b,c,d,e,f,g,h,i,j,k,l,m,n)=>Zbj a b c d e f g h i j k l m n
def ZeC (x:KB):Option Jb:=iterO Zjr Zj x
def Zqj (a0:U) (a1:Int):Option E:=
 bif decide (a1<0) then some ((false,[],[],[],0,0):E)
 else
 bif decide (a1≥(↑(List.length a0.2.2.2):Int)) then some ((false,[],[],[],0,0):E)
 else
 optC (ZeA (a1,0,a0.1,a0.2.1,a0.2.2.1,a0.2.2.2,false,0,0,true,0,0,[])) none fun d6=>
 optC
 (ZeB
 (0,d6.1,d6.2.1,d6.2.2.1,d6.2.2.2.1,d6.2.2.2.2.1,d6.2.2.2.2.2.1,d6.2.2.2.2.2.2.1,d6.2.2.2.2.2.2.2.1,
 d6.2.2.2.2.2.2.2.2.1,d6.2.2.2.2.2.2.2.2.2.1,d6.2.2.2.2.2.2.2.2.2.2,[]))
 none fun d7=>
 optC
 (ZeC
 (0,d7.1,d7.2.1,d7.2.2.1,d7.2.2.2.1,d7.2.2.2.2.1,d7.2.2.2.2.2.1,d7.2.2.2.2.2.2.1,d7.2.2.2.2.2.2.2.1,
 d7.2.2.2.2.2.2.2.2.1,d7.2.2.2.2.2.2.2.2.2.1,d7.2.2.2.2.2.2.2.2.2.2.1,d7.2.2.2.2.2.2.2.2.2.2.2,[]))
 none fun d8=>
 some (d8.2.2.2.1,d8.2.2.2.2.2.2.1,d8.2.2.2.2.2.2.2.1,d8.2.2.2.2.2.2.2.2,d8.2.2.2.2.1,d8.2.2.2.2.2.1)
def ZlN (x:U×(Int×Unit)):Option E:=Zqj x.1 x.2.1
end
def ZdY (b0_1:List Int) (b0_2:Int) (b0_3:List C) (b1:Bool) (b1_1 b1_2:Int) (b2:Bool) (b2_1 b2_2:Int) (b3:List I) (b0:List Int) (i:Nat) (b4:List I) (d:Int):Option ((List I)⊕Ja):=
 bif decide ((b4.length+[(d,d)].length+1)*16≤lim) then
  some (Sum.inl (b4++[(d,d)]))
 else none
def ZiS (b0_1:List Int) (b0_2:Int) (b0_3:List C) (b1:Bool) (b1_1 b1_2:Int) (b2:Bool) (b2_1 b2_2:Int) (b3:List I) (b0:List Int) (b4:List I):Option Ja:=
 some (b0,b0_1,b0_2,b0_3,b1,b1_1,b1_2,b2,b2_1,b2_2,b3,b4)
abbrev ZES (b0_1:List Int) (b0_2:Int) (b0_3:List C) (b1:Bool) (b1_1 b1_2:Int) (b2:Bool) (b2_1 b2_2:Int) (b3:List I) (b0:List Int) (i:Nat) (s:List I):KA:=((i:Int),b0,b0_1,b0_2,b0_3,b1,b1_1,b1_2,b2,b2_1,b2_2,b3,s)
def Zjg (b0_1:List Int) (b0_2:Int) (b0_3:List C) (b1:Bool) (b1_1 b1_2:Int) (b2:Bool) (b2_1 b2_2:Int) (b3:List I) (b0:List Int) (s:List I):Option Ja:=Zl (fun i s d=>ZdY b0_1 b0_2 b0_3 b1 b1_1 b1_2 b2 b2_1 b2_2 b3 b0 i s d) (fun s=>ZiS b0_1 b0_2 b0_3 b1 b1_1 b1_2 b2 b2_1 b2_2 b3 b0 s) 0 b0 s
theorem ZEt (b0_1:List Int) (b0_2:Int) (b0_3:List C) (b1:Bool) (b1_1 b1_2:Int) (b2:Bool) (b2_1 b2_2:Int) (b3:List I) (b0:List Int) (s:List I) (hl:b0.length<9223372036854775807):ZeB (0,b0,b0_1,b0_2,b0_3,b1,b1_1,b1_2,b2,b2_1,b2_2,b3,s)=Zjg b0_1 b0_2 b0_3 b1 b1_1 b1_2 b2 b2_1 b2_2 b3 b0 s:=by
 unfold ZeB Zjg
 refine Zk b0 (ZES b0_1 b0_2 b0_3 b1 b1_1 b1_2 b2 b2_1 b2_2 b3 b0) _ _ ?_ ?_ s (by unfold Zj;omega)
 ·intro i s d hi hd
  have e1:decide ((i:Int)<(b0.length:Int))=true:=decide_eq_true (by omega)
  have e2:decide (0≤(i:Int))=true:=decide_eq_true (by omega)
  have e3:Int.toNat (i:Int)=i:=Int.toNat_natCast i
  have e4:=Zm hi (Nat.le_of_lt hl)
  show Zbi ((i:Int)) (b0) (b0_1) (b0_2) (b0_3) (b1) (b1_1) (b1_2) (b2) (b2_1) (b2_2) (b3) (s)=upd _ (ZdY b0_1 b0_2 b0_3 b1 b1_1 b1_2 b2 b2_1 b2_2 b3 b0 i s d)
  unfold Zbi ZdY
  simp only [e1,e2,e3,e4,hd,cond_true,cond_false,Zb,Zv,Zy,Zw,ZB,ZC,Zx]
 ·intro s
  have e1:decide ((b0.length:Int)<(b0.length:Int))=false:=decide_eq_false (by omega)
  show Zbi ((b0.length:Int)) (b0) (b0_1) (b0_2) (b0_3) (b1) (b1_1) (b1_2) (b2) (b2_1) (b2_2) (b3) (s)=_
  unfold Zbi ZiS
  rw [e1]
  rfl
def ZdZ (b0:List Int) (b0_2:Int) (b0_3:List C) (b1:Bool) (b1_1 b1_2:Int) (b2:Bool) (b2_1 b2_2:Int) (b3 b4:List I) (b0_1:List Int) (i:Nat) (b5:List I) (d:Int):Option ((List I)⊕Jb):=
 bif decide ((b5.length+[(0,0)].length+1)*16≤lim) then
  some (Sum.inl (b5++[(0,0)]))
 else none
def ZiT (b0:List Int) (b0_2:Int) (b0_3:List C) (b1:Bool) (b1_1 b1_2:Int) (b2:Bool) (b2_1 b2_2:Int) (b3 b4:List I) (b0_1:List Int) (b5:List I):Option Jb:=
 some (b1,b1_1,b1_2,b2,b2_1,b2_2,b3,b4,b5)
abbrev ZET (b0:List Int) (b0_2:Int) (b0_3:List C) (b1:Bool) (b1_1 b1_2:Int) (b2:Bool) (b2_1 b2_2:Int) (b3 b4:List I) (b0_1:List Int) (i:Nat) (s:List I):KB:=((i:Int),b0,b0_1,b0_2,b0_3,b1,b1_1,b1_2,b2,b2_1,b2_2,b3,b4,s)
def Zjh (b0:List Int) (b0_2:Int) (b0_3:List C) (b1:Bool) (b1_1 b1_2:Int) (b2:Bool) (b2_1 b2_2:Int) (b3 b4:List I) (b0_1:List Int) (s:List I):Option Jb:=Zl (fun i s d=>ZdZ b0 b0_2 b0_3 b1 b1_1 b1_2 b2 b2_1 b2_2 b3 b4 b0_1 i s d) (fun s=>ZiT b0 b0_2 b0_3 b1 b1_1 b1_2 b2 b2_1 b2_2 b3 b4 b0_1 s) 0 b0_1 s
theorem ZEu (b0:List Int) (b0_2:Int) (b0_3:List C) (b1:Bool) (b1_1 b1_2:Int) (b2:Bool) (b2_1 b2_2:Int) (b3 b4:List I) (b0_1:List Int) (s:List I) (hl:b0_1.length<9223372036854775807):ZeC (0,b0,b0_1,b0_2,b0_3,b1,b1_1,b1_2,b2,b2_1,b2_2,b3,b4,s)=Zjh b0 b0_2 b0_3 b1 b1_1 b1_2 b2 b2_1 b2_2 b3 b4 b0_1 s:=by
 unfold ZeC Zjh
 refine Zk b0_1 (ZET b0 b0_2 b0_3 b1 b1_1 b1_2 b2 b2_1 b2_2 b3 b4 b0_1) _ _ ?_ ?_ s (by unfold Zj;omega)
 ·intro i s d hi hd
  have e1:decide ((i:Int)<(b0_1.length:Int))=true:=decide_eq_true (by omega)
  have e2:decide (0≤(i:Int))=true:=decide_eq_true (by omega)
  have e3:Int.toNat (i:Int)=i:=Int.toNat_natCast i
  have e4:=Zm hi (Nat.le_of_lt hl)
  show Zbj ((i:Int)) (b0) (b0_1) (b0_2) (b0_3) (b1) (b1_1) (b1_2) (b2) (b2_1) (b2_2) (b3) (b4) (s)=upd _ (ZdZ b0 b0_2 b0_3 b1 b1_1 b1_2 b2 b2_1 b2_2 b3 b4 b0_1 i s d)
  unfold Zbj ZdZ
  simp only [e1,e2,e3,e4,hd,cond_true,cond_false,Zb,Zv,Zy,Zw,ZB,ZC,Zx]
 ·intro s
  have e1:decide ((b0_1.length:Int)<(b0_1.length:Int))=false:=decide_eq_false (by omega)
  show Zbj ((b0_1.length:Int)) (b0) (b0_1) (b0_2) (b0_3) (b1) (b1_1) (b1_2) (b2) (b2_1) (b2_2) (b3) (b4) (s)=_
  unfold Zbj ZiT
  rw [e1]
  rfl
def Zfq (u:U) (c:C):E:=(true,List.replicate c.1.toNat (0,0),u.1.map (fun n=>(n,n)),List.replicate u.2.1.length (0,0),0,0)
theorem ZvL {α Y:Type} {f:Nat→List I→α→Option (List I⊕Y)} {fin:List I→Option Y} {F:α→I} {L:List α} (h:∀ j s d,d∈L→s.length≤1000→f j s d=some (.inl (s++[F d]))) :
  ∀ (l:List α) (j:Nat) (s:List I),(∀ d∈l,d∈L)→s.length+l.length≤1000→Zl f fin j l s=fin (s++l.map F)
 | [],j,s,_,_=>by simp [Zl]
 | d::r,j,s,hL,hs=>by
  rw [List.length_cons] at hs
  rw [Qk (h j s d (hL d (by simp)) (by omega)),ZvL h r (j+1) (s++[F d]) (fun x hx=>hL x (by simp [hx])) (by rw [List.length_append];simp;omega),List.map_cons,List.append_assoc]
  rfl
theorem ZMG (n:Int) (h0:0≤n) (h:n≤1000):Zvc n=some (List.replicate n.toNat (0,0)):=by
 unfold Zvc
 have e:(if 0>n then 0 else n)=n:=if_neg (by omega)
 rw [e,decide_eq_true (by unfold lim;omega)]
 rfl
theorem ZMF (u:U) (t:Int) (hu:unitOK u) (ht:0≤t) {c:C} (hc:u.2.2.2[t.toNat]? = some c):Zva u t=some (Zfq u c):=by
 have hlt:t.toNat<u.2.2.2.length:=(List.getElem?_eq_some_iff.1 hc).1
 have cv:=(hu.ts c (List.mem_of_getElem? hc)).v
 have ua:=hu.a
 have ug:=hu.g
 unfold Zva Zu5
 rw [decide_eq_false (by omega),decide_eq_false (by omega),decide_eq_true (by omega),hc]
 simp only [cond_false,cond_true,Zb,ZMG c.1 cv.1 (by omega),ZMG (u.2.1.length:Int) (by omega) (by omega),Int.toNat_natCast]
 rw [ZIE _ _ _ _ _ _ _ _ u.1 [] (by omega)]
 unfold Zmr
 rw [ZvL (F:=fun n=>(n,n)) (L:=u.1) (fun j s d hd hs=>?_) u.1 0 [] (fun _ h=>h) (by simp;omega)]
 ·rfl
 ·unfold ZfR
  rw [ZT4 d (hu.gs d hd)]
  simp only [Zb,List.length_cons,List.length_nil,Nat.zero_add,ZKm hs,cond_true]
theorem ZHT (u:U) (t:Int) (hu:unitOK u) (ht:0≤t) {c:C} (hc:u.2.2.2[t.toNat]? = some c):Zqj u t=some (Zfq u c):=by
 have hlt:t.toNat<u.2.2.2.length:=(List.getElem?_eq_some_iff.1 hc).1
 have cv:=(hu.ts c (List.mem_of_getElem? hc)).v
 have ua:=hu.a
 have ug:=hu.g
 have h0:ZeA (t,0,u.1,u.2.1,u.2.2.1,u.2.2.2,false,0,0,true,0,0,[])=some (u.1,u.2.1,u.2.2.1,u.2.2.2,false,0,0,true,0,0,List.replicate c.1.toNat (0,0)):=by
  unfold ZeA
  have e2:decide (0≤t)=true:=decide_eq_true ht
  have:=Zk (step:=fun x:Kz=>Hx x.1 x.2.1 x.2.2.1 x.2.2.2.1 x.2.2.2.2.1 x.2.2.2.2.2.1 x.2.2.2.2.2.2.1 x.2.2.2.2.2.2.2.1 x.2.2.2.2.2.2.2.2.1 x.2.2.2.2.2.2.2.2.2.1 x.2.2.2.2.2.2.2.2.2.2.1 x.2.2.2.2.2.2.2.2.2.2.2.1 x.2.2.2.2.2.2.2.2.2.2.2.2)
   (List.replicate c.1.toNat ()) (fun i s=>(t,(i:Int),u.1,u.2.1,u.2.2.1,u.2.2.2,false,0,0,true,0,0,s))
   (fun i s _=>bif decide ((s.length+[((0,0):I)].length+1)*16≤lim) then some (.inl (s++[(0,0)])) else none) (fun s=>some (u.1,u.2.1,u.2.2.1,u.2.2.2,false,0,0,true,0,0,s)) ?_ ?_ [] (n:=Zj) (by rw [List.length_replicate];unfold Zj;omega)
  ·refine this.trans ?_
   rw [ZvL (F:=fun _=>((0,0):I)) (L:=List.replicate c.1.toNat ()) (fun j s d hd hs=>?_) (List.replicate c.1.toNat ()) 0 [] (fun _ h=>h) (by simp;omega)]
   ·simp
   ·simp only [List.length_cons,List.length_nil,Nat.zero_add,ZKm hs,cond_true]
  ·intro i s d hi hd
   rw [List.length_replicate] at hi
   show Hx t (i:Int) u.1 u.2.1 u.2.2.1 u.2.2.2 false 0 0 true 0 0 s=_
   unfold Hx
   have e4:=Zm (i:=i) (n:=c.1.toNat) hi (by omega)
   rw [e2,cond_true,hc,Zb,decide_eq_true (show (i:Int)<c.1 by omega),cond_true,e4]
   cases decide ((s.length+[((0,0):I)].length+1)*16≤lim)<;>rfl
  ·intro s
   rw [List.length_replicate]
   show Hx t (c.1.toNat:Int) u.1 u.2.1 u.2.2.1 u.2.2.2 false 0 0 true 0 0 s=_
   unfold Hx
   rw [e2,cond_true,hc,Zb,decide_eq_false (show ¬ ((c.1.toNat:Int)<c.1) by omega)]
   rfl
 unfold Zqj
 rw [decide_eq_false (by omega),decide_eq_false (by omega)]
 simp only [cond_false]
 rw [h0]
 simp only [Zb]
 rw [ZEt _ _ _ _ _ _ _ _ _ _ u.1 [] (by omega)]
 unfold Zjg
 rw [ZvL (F:=fun n=>(n,n)) (L:=u.1) (fun j s d hd hs=>?_) u.1 0 [] (fun _ h=>h) (by simp;omega)]
 ·simp only [ZiS,Zb,List.nil_append]
  rw [ZEu _ _ _ _ _ _ _ _ _ _ _ u.2.1 [] (by omega)]
  unfold Zjh
  rw [ZvL (F:=fun _=>((0,0):I)) (L:=u.2.1) (fun j s d hd hs=>?_) u.2.1 0 [] (fun _ h=>h) (by simp;omega)]
  ·simp only [ZiT,Zb,List.nil_append,List.map_const']
   rfl
  ·unfold ZdZ
   simp only [List.length_cons,List.length_nil,Nat.zero_add,ZKm hs,cond_true]
 ·unfold ZdY
  simp only [List.length_cons,List.length_nil,Nat.zero_add,ZKm hs,cond_true]
theorem ZNu (u:U) (t:Int) (hu:unitOK u) {c:C} (hc:u.2.2.2[t.toNat]? = some c):envOK u t (Zfq u c):=by
 have cv:=(hu.ts c (List.mem_of_getElem? hc)).v
 refine ⟨⟨c,hc,by simp [Zfq];omega⟩,by simp [Zfq],by simp [Zfq],by simp [Zfq],by simp [Zfq],fun x hx=>?_⟩
 simp only [Zfq,List.mem_append,List.mem_map,List.mem_replicate] at hx
 rcases hx with (⟨_,rfl⟩ | ⟨n,hn,rfl⟩) | ⟨_,rfl⟩
 ·exact ⟨by decide,by decide⟩
 ·have hf:=W9.1 (hu.gs n hn)
  exact ⟨ZlV hf.1 (Int.le_refl _) hf.2,Z0 (Int.le_refl _)⟩
 ·exact ⟨by decide,by decide⟩
def insR (n:Int):List Int→List Int
 | []=>[n]
 | x::r=>if x<n then x::insR n r else if x=n then x::r else n::x::r
def layS (l:List Int) (n:Int):List Int:=bif fitB n then insR n l else l
theorem ZNw (n:Int):∀ (l:List Int) (x:Int),x∈insR n l↔x=n∨x∈l
 | [],x=>by simp [insR]
 | y::r,x=>by
  unfold insR
  split
  ·rw [List.mem_cons,ZNw n r x,List.mem_cons]
   exact ⟨fun h=>h.elim (fun k=>.inr (.inl k)) (fun k=>k.elim .inl (fun q=>.inr (.inr q))),fun h=>h.elim (fun k=>.inr (.inl k)) (fun k=>k.elim .inl (fun q=>.inr (.inr q)))⟩
  ·split
   ·rename_i h
    rw [List.mem_cons]
    exact ⟨.inr,fun k=>k.elim (fun q=>.inl (q.trans h.symm)) id⟩
   ·simp only [List.mem_cons]
theorem ZRx (n:Int):∀ (l:List Int),l.Pairwise (· < ·)→(insR n l).Pairwise (· < ·)
 | [],_=>List.pairwise_singleton _ _
 | y::r,h=>by
  rw [List.pairwise_cons] at h
  unfold insR
  split
  ·rename_i hy
   rw [List.pairwise_cons]
   refine ⟨fun x hx=>?_,ZRx n r h.2⟩
   rcases (ZNw n r x).1 hx with rfl | k
   ·exact hy
   ·exact h.1 x k
  ·split
   ·exact List.pairwise_cons.2 h
   ·rw [List.pairwise_cons]
    refine ⟨fun x hx=>?_,List.pairwise_cons.2 h⟩
    rcases List.mem_cons.1 hx with rfl | k
    ·omega
    ·have:=h.1 x k;omega
theorem ZTX (n:Int):∀ l:List Int,(insR n l).length≤l.length+1
 | []=>by simp [insR]
 | y::r=>by
  unfold insR
  have:=ZTX n r
  split
  ·simp only [List.length_cons];omega
  ·split<;>simp
def ZlY (n:Int):List Int→Nat
 | []=>0
 | x::r=>if x<n then ZlY n r+1 else 0
theorem ZWJ (n:Int):∀ l:List Int,ZlY n l≤l.length∧insR n l=(if l[ZlY n l]? = some n then l else l.take (ZlY n l)++[n]++l.drop (ZlY n l))
 | []=>⟨Nat.le_refl _,rfl⟩
 | x::r=>by
  obtain ⟨h1,h2⟩:=ZWJ n r
  unfold ZlY insR
  by_cases hx:x<n
  ·rw [if_pos hx,if_pos hx,h2]
   refine ⟨by simp;omega,?_⟩
   simp only [List.getElem?_cons_succ,List.take_succ_cons,List.drop_succ_cons]
   split<;>simp
  ·rw [if_neg hx,if_neg hx]
   refine ⟨Nat.zero_le _,?_⟩
   simp only [List.getElem?_cons_zero,Option.some.injEq,List.take_zero,List.drop_zero]
   split<;>simp
theorem ZYJ (n:Int) (L:List Int):∀ (l:List Int) (j:Nat),j+l.length=L.length→Zl (fun i s d=>Vz n L i d) (fun s=>ZnP n L) j l ()=some (L,n,((j+ZlY n l:Nat):Int))
 | [],j,h=>by
  have:j=L.length:=by simpa using h
  subst this
  rfl
 | d::r,j,h=>by
  rw [List.length_cons] at h
  by_cases hd:d<n
  ·rw [Qk (s':=()) (by unfold Vz;rw [decide_eq_true hd];rfl),ZYJ n L r (j+1) (by omega)]
   simp only [ZlY,if_pos hd]
   rw [show j+1+ZlY n r=j+(ZlY n r+1) by omega]
  ·have e:Vz n L j d=some (.inr (L,n,(j:Int))):=by unfold Vz;rw [decide_eq_false hd];rfl
   simp only [Zl,e]
   unfold ZlY
   rw [if_neg hd];rfl
theorem Z4W {n:Nat} (h:n≤100000):decide ((n+1)*8≤lim)=true:=decide_eq_true (by unfold lim;omega)
theorem ZoH (l:List Int) (n:Int) (hl:l.length≤10000):Zdg l n=some (layS l n):=by
 unfold Zdg layS Zn
 rw [Qq n]
 cases fitB n
 ·rfl
 simp only [Zb,Bool.not_true,cond_false,cond_true]
 have:=ZKE n l () (by omega)
 rw [this]
 unfold Zom
 rw [ZYJ n l l 0 (by simp),Nat.zero_add]
 obtain ⟨h1,h2⟩:=ZWJ n l
 rw [h2]
 generalize ZlY n l=p at h1
 have c0:decide ((0:Int)≤0∧0≤(p:Int)∧(p:Int)≤(l.length:Int))=true:=decide_eq_true (by omega)
 have c1:decide (0≤(p:Int)∧(p:Int)≤(l.length:Int)∧(l.length:Int)≤(l.length:Int))=true:=decide_eq_true (by omega)
 have l1:∀ k,k≤30000→decide ((k+1)*8≤lim)=true:=fun k hk=>Z4W (by omega)
 have t1:(List.drop (Int.toNat 0) (List.take p l)).length≤10000:=by simp;omega
 have t2:(List.drop p (List.take l.length l)).length≤10000:=by simp;omega
 have fin:∀ (q:Option (List Int)),q=some ([]++List.drop (Int.toNat 0) (List.take p l)++[n]++List.drop p (List.take l.length l))→q=some (List.take p l++[n]++List.drop p l):=fun q hq=>by rw [hq];simp
 by_cases hp:p<l.length
 ·have e1:decide ((p:Int)<(l.length:Int))=true:=decide_eq_true (by omega)
  have e2:decide (0≤(p:Int))=true:=decide_eq_true (by omega)
  have e3:l[p]? = some l[p]:=List.getElem?_eq_getElem hp
  by_cases hn:l[p]=n
  ·simp only [Zb,e1,e2,e3,cond_true,Int.toNat_natCast,hn,beq_self_eq_true,if_true]
  ·have e4:(l[p]==n)=false:=by simpa using hn
   rw [e3,if_neg (fun k=>hn (Option.some.inj k))]
   apply fin
   simp only [Zb,e1,e2,e3,e4,c0,c1,cond_true,cond_false,Int.toNat_natCast]
   rw [l1 _ (by simp;omega),l1 _ (by simp;omega),l1 _ (by simp;omega)]
   rfl
 ·have e1:decide ((p:Int)<(l.length:Int))=false:=decide_eq_false (by omega)
  have e3:l[p]? = none:=List.getElem?_eq_none (by omega)
  rw [e3,if_neg (fun k=>nomatch k)]
  apply fin
  simp only [Zb,e1,c0,c1,cond_true,cond_false,Int.toNat_natCast]
  rw [l1 _ (by simp;omega),l1 _ (by simp;omega),l1 _ (by simp;omega)]
  rfl
section
section
variable [RT] {P:Program}
def rowT1 (t:Nat) (x:Tm×Hp):Tm×Hp:=match getT x.1 t with
 | .row id=>match findB x.2.blks id with
  | some (.row e l)=>((t,.sl e l)::x.1,⟨delB x.2.blks id,x.2.c⟩)
  | _=>x
 | _=>x
section
variable {ok:Nat→Prop} {hdr0 hdr:Nat→Value} {S0 S:Stb} {h0 h:Hp} {w0 w:World} {a0 a:Act} {T:Tm}
def rowB1 (id j:Nat) (h:Hp):Hp:=match findB h.blks id with
 | some (.box cs)=>match cs[j]? with
  | some (.row k)=>match findB h.blks k with
   | some (.row e l)=>⟨setB (delB h.blks k) id (.box (cs.set j (.sl e l))),h.c⟩
   | _=>h
  | _=>h
 | _=>h
theorem ZUY {hdr:Nat→Value} {S:Stb} {b:AV}:∀ {cs:List AV} {vs:List Value} (j:Nat),VReps hdr S cs vs→(∀ v,vs[j]? = some v→VRep hdr S b v)→VReps hdr S (cs.set j b) vs
 | _,_,_,.nil,_=>.nil
 | _,_,0,.cons a v aZs vs h h',k=>.cons b v aZs vs (k v rfl) h'
 | _,_,j+1,.cons a v aZs vs h h',k=>.cons a v _ vs h (ZUY j h' k)
theorem ZRw {b:AV} (hb:b.ids=[]):∀ (cs:List AV) (j n:Nat),n∈AV.idsL (cs.set j b)→n∈AV.idsL cs
 | [],_,_,h=>h
 | a::r,0,n,h=>by
  simp only [List.set_cons_zero,AV.idsL,hb,List.nil_append] at h
  simp only [AV.idsL,List.mem_append];exact .inr h
 | a::r,j+1,n,h=>by
  simp only [List.set_cons_succ,AV.idsL,List.mem_append] at h ⊢
  exact h.imp id (ZRw hb r j n)
theorem Left.rowB1 (l:Left P false ok hdr0 S0 h0 w0 a0 h T hdr S a w) (id j:Nat):∃ S',Left P false ok hdr0 S0 h0 w0 a0 (Go.Proofs.YtbdcblpjemmipaaGreat.Ex.rowB1 id j h) T hdr S' a w:=by
 unfold Go.Proofs.YtbdcblpjemmipaaGreat.Ex.rowB1
 split
 case h_2=>exact ⟨S,l⟩
 rename_i cs hf
 split
 case h_2=>exact ⟨S,l⟩
 rename_i k hk
 split
 case h_2=>exact ⟨S,l⟩
 rename_i e x hx
 have hne:id≠k:=fun q=>by rw [q,hx] at hf;cases hf
 obtain ⟨S',p,hd⟩:=ZEM (tr:=false) l.post.real l.post.ment hx
 have hb:=l.post.real.blk id _ hf
 cases hb with | box _ b vs et hh hw hr=>
 have hf2:findB (delB h.blks k) id=some (.box cs):=by rw [Zdf,if_neg hne];exact hf
 have hr2:VReps hdr S' (cs.set j (.sl e x)) vs:=ZUY j (hr.mono p.step.sle fun _ _=>rfl) fun v hv=>by
  obtain ⟨v',hv',hrep⟩:=hr.get j _ hk
  rw [hv] at hv';cases hv'
  cases hrep with | row _ ao len cap hh2=>
  rw [hh2] at hd
  exact .sl e x _ hd
 have p2:=ZqP (tr:=false) p.real p.ment id (.box (cs.set j (.sl e x))) _ hf2 (fun n hn=>.inl ((l.post.ment id _ hf).2 n (ZRw rfl cs j n hn))) w b (by rw [hh];rfl) rfl rfl rfl rfl (fun _ _=>rfl) (.box _ b vs et hh hw hr2)
 refine ⟨S',l.trans ⟨p.trans p2,fun s=>(l.tmps s).mono p.step.sle fun _ _=>rfl,fun s n hn=>.inl (l.tok s n hn),rfl,rfl⟩⟩
end
end
end
section
open Go.Proofs Go.Proofs.YtbdcblpjemmipaaGreat
abbrev YR:=((List Int)×Int×(List Int)×(List Int)×Int×(List C))
abbrev JU:=((List Int)×(List Int)×(List Int)×Int×(List C))
def Zcb (s3:List Int) (s4:Int) (b0 b0_1:List Int) (b0_2:Int) (b0_3:List C):Option (((List Int)×Int×(List Int)×(List Int)×Int×(List C))⊕((List Int)×(List Int)×(List Int)×Int×(List C))):=
 bif decide (s4<(↑b0.length:Int)) then
 bif decide (0≤s4) then
 optC b0[s4.toNat]? none fun d11=>optC (V1 (s3,d11,())) none fun d12=>some (Sum.inl (d12,IntKind.i64.wrap (s4+1),b0,b0_1,b0_2,b0_3))
 else none
 else some (Sum.inr (s3,b0,b0_1,b0_2,b0_3))
def Zlb:YR→Option (YR⊕JU):=fun (a,b,c,d,e,f)=>Zcb a b c d e f
def ZcE (x:YR):Option JU:=iterO Zlb Zj x
abbrev YS:=((List Int)×Int×(List Int)×(List Int)×Int×(List C))
abbrev JV:=((List Int)×(List Int)×(List Int)×Int×(List C))
def Zcc (s3:List Int) (s5:Int) (b0 b0_1:List Int) (b0_2:Int) (b0_3:List C):Option (((List Int)×Int×(List Int)×(List Int)×Int×(List C))⊕((List Int)×(List Int)×(List Int)×Int×(List C))):=
 bif decide (s5<(↑b0_1.length:Int)) then
 bif decide (0≤s5) then
 optC b0_1[s5.toNat]? none fun d11=>
 optC (V1 (s3,d11,())) none fun d12=>
 bif decide (0≤s5) then
 optC b0_1[s5.toNat]? none fun d13=>
 optC (V1 (d12,IntKind.i64.wrap (d13 - 1),())) none fun d14=>some (Sum.inl (d14,IntKind.i64.wrap (s5+1),b0,b0_1,b0_2,b0_3))
 else none
 else none
 else some (Sum.inr (s3,b0,b0_1,b0_2,b0_3))
def Zlc:YS→Option (YS⊕JV):=fun (a,b,c,d,e,f)=>Zcc a b c d e f
def ZcF (x:YS):Option JV:=iterO Zlc Zj x
abbrev YT:=((List Int)×Int×Int×(List Int)×(List Int)×Int×(List C))
abbrev ZdR:=((List Int)×Int×(List Int)×(List Int)×Int×(List C))
def Wa (s3:List Int) (s6 s7:Int) (b0 b0_1:List Int) (b0_2:Int) (b0_3:List C):Option (((List Int)×Int×Int×(List Int)×(List Int)×Int×(List C))⊕((List Int)×Int×(List Int)×(List Int)×Int×(List C))):=
 bif decide (0≤s6) then
 optC b0_3[s6.toNat]? none fun d12=>
 bif decide (s7<(↑(List.length d12.2):Int)) then
 bif decide (0≤s6) then
 optC b0_3[s6.toNat]? none fun d13=>
 bif decide (0≤s7) then
 optC d13.2[s7.toNat]? none fun d14=>
 bif d14.1==1 then
 optC (V1 (s3,d14.2.2.2.2.2.1,())) none fun d15=>
 optC (V1 (d15,IntKind.i64.wrap (d14.2.2.2.2.2.1 - 1),())) none fun d16=>
 optC (V1 (d16,IntKind.i64.wrap (d14.2.2.2.2.2.1+1),())) none fun d17=>
 some (Sum.inl (d17,s6,IntKind.i64.wrap (s7+1),b0,b0_1,b0_2,b0_3))
 else some (Sum.inl (s3,s6,IntKind.i64.wrap (s7+1),b0,b0_1,b0_2,b0_3))
 else none
 else none
 else some (Sum.inr (s3,s6,b0,b0_1,b0_2,b0_3))
 else none
def Zcd:YT→Option (YT⊕ZdR):=fun (a,b,c,d,e,f,g)=>Wa a b c d e f g
def ZcG (x:YT):Option ZdR:=iterO Zcd Zj x
abbrev W2:=((List Int)×Int×(List Int)×(List Int)×Int×(List C))
abbrev ZdQ:=(List Int)
def ZkS (s3:List Int) (s6:Int) (b0 b0_1:List Int) (b0_2:Int) (b0_3:List C):Option (((List Int)×Int×(List Int)×(List Int)×Int×(List C))⊕(List Int)):=
 bif decide (s6<(↑b0_3.length:Int)) then
 optC (ZcG (s3,s6,0,b0,b0_1,b0_2,b0_3)) none fun d11=>
 some (Sum.inl (d11.1,IntKind.i64.wrap (d11.2.1+1),d11.2.2.1,d11.2.2.2.1,d11.2.2.2.2.1,d11.2.2.2.2.2))
 else some (Sum.inr s3)
def Wc:W2→Option (W2⊕ZdQ):=fun (a,b,c,d,e,f)=>ZkS a b c d e f
def ZfP (x:W2):Option ZdQ:=iterO Wc Zj x
def ZnS (a0:U):Option (List Int):=
 optC (ZcE ([-1,0,1],0,a0)) none fun d6=>
 optC (ZcF (d6.1,0,d6.2)) none fun d7=>optC (ZfP (d7.1,0,d7.2)) none fun d8=>some d8
def Zy2 (x:U×Unit):Option (List Int):=ZnS x.1
end
def ZeQ (b0_1:List Int) (b0_2:Int) (b0_3:List C) (b0:List Int) (i:Nat) (s3:List Int) (d:Int):Option ((List Int)⊕JU):=
 optC (V1 (s3,d,())) (none) fun d12=>
  some (Sum.inl (d12))
def Zsx (b0_1:List Int) (b0_2:Int) (b0_3:List C) (b0 s3:List Int):Option JU:=
 some (s3,b0,b0_1,b0_2,b0_3)
abbrev ZGT (b0_1:List Int) (b0_2:Int) (b0_3:List C) (b0:List Int) (i:Nat) (s:List Int):YR:=(s,(i:Int),b0,b0_1,b0_2,b0_3)
def ZkK (b0_1:List Int) (b0_2:Int) (b0_3:List C) (b0 s:List Int):Option JU:=Zl (fun i s d=>ZeQ b0_1 b0_2 b0_3 b0 i s d) (fun s=>Zsx b0_1 b0_2 b0_3 b0 s) 0 b0 s
theorem ZGe (b0_1:List Int) (b0_2:Int) (b0_3:List C) (b0 s:List Int) (hl:b0.length<9223372036854775807):ZcE (s,0,b0,b0_1,b0_2,b0_3)=ZkK b0_1 b0_2 b0_3 b0 s:=by
 unfold ZcE ZkK
 refine Zk b0 (ZGT b0_1 b0_2 b0_3 b0) _ _ ?_ ?_ s (by unfold Zj;omega)
 ·intro i s d hi hd
  have e1:decide ((i:Int)<(b0.length:Int))=true:=decide_eq_true (by omega)
  have e2:decide (0≤(i:Int))=true:=decide_eq_true (by omega)
  have e3:Int.toNat (i:Int)=i:=Int.toNat_natCast i
  have e4:=Zm hi (Nat.le_of_lt hl)
  show Zcb (s) ((i:Int)) (b0) (b0_1) (b0_2) (b0_3)=upd _ (ZeQ b0_1 b0_2 b0_3 b0 i s d)
  unfold Zcb ZeQ
  simp only [e1,e2,e3,e4,hd,cond_true,cond_false,Zb,Zv,Zy,Zw,ZB,ZC,Zx]
 ·intro s
  have e1:decide ((b0.length:Int)<(b0.length:Int))=false:=decide_eq_false (by omega)
  show Zcb (s) ((b0.length:Int)) (b0) (b0_1) (b0_2) (b0_3)=_
  unfold Zcb Zsx
  rw [e1]
  rfl
def ZeR (b0:List Int) (b0_2:Int) (b0_3:List C) (b0_1:List Int) (i:Nat) (s3:List Int) (d:Int):Option ((List Int)⊕JV):=
 optC (V1 (s3,d,())) (none) fun d12=>
  optC (V1 (d12,IntKind.i64.wrap (d - 1),())) (none) fun d14=>
  some (Sum.inl (d14))
def Zsy (b0:List Int) (b0_2:Int) (b0_3:List C) (b0_1 s3:List Int):Option JV:=
 some (s3,b0,b0_1,b0_2,b0_3)
abbrev ZGU (b0:List Int) (b0_2:Int) (b0_3:List C) (b0_1:List Int) (i:Nat) (s:List Int):YS:=(s,(i:Int),b0,b0_1,b0_2,b0_3)
def ZkL (b0:List Int) (b0_2:Int) (b0_3:List C) (b0_1 s:List Int):Option JV:=Zl (fun i s d=>ZeR b0 b0_2 b0_3 b0_1 i s d) (fun s=>Zsy b0 b0_2 b0_3 b0_1 s) 0 b0_1 s
theorem ZGf (b0:List Int) (b0_2:Int) (b0_3:List C) (b0_1 s:List Int) (hl:b0_1.length<9223372036854775807):ZcF (s,0,b0,b0_1,b0_2,b0_3)=ZkL b0 b0_2 b0_3 b0_1 s:=by
 unfold ZcF ZkL
 refine Zk b0_1 (ZGU b0 b0_2 b0_3 b0_1) _ _ ?_ ?_ s (by unfold Zj;omega)
 ·intro i s d hi hd
  have e1:decide ((i:Int)<(b0_1.length:Int))=true:=decide_eq_true (by omega)
  have e2:decide (0≤(i:Int))=true:=decide_eq_true (by omega)
  have e3:Int.toNat (i:Int)=i:=Int.toNat_natCast i
  have e4:=Zm hi (Nat.le_of_lt hl)
  show Zcc (s) ((i:Int)) (b0) (b0_1) (b0_2) (b0_3)=upd _ (ZeR b0 b0_2 b0_3 b0_1 i s d)
  unfold Zcc ZeR
  simp only [e1,e2,e3,e4,hd,cond_true,cond_false,Zb,Zv,Zy,Zw,ZB,ZC,Zx]
 ·intro s
  have e1:decide ((b0_1.length:Int)<(b0_1.length:Int))=false:=decide_eq_false (by omega)
  show Zcc (s) ((b0_1.length:Int)) (b0) (b0_1) (b0_2) (b0_3)=_
  unfold Zcc Zsy
  rw [e1]
  rfl
theorem Zhy (l:List Int) (n:Int):(layS l n).length≤l.length+1:=by
 unfold layS
 cases fitB n
 ·simp
 ·exact ZTX n l
theorem ZYI {l:List Int} (h:l.Pairwise (· < ·)) (n:Int):(layS l n).Pairwise (· < ·):=by
 unfold layS
 cases fitB n
 ·exact h
 ·exact ZRx n l h
theorem Z0b (l:List Int) (n x:Int):x∈layS l n↔(x=n∧fitB n=true)∨x∈l:=by
 unfold layS
 cases h:fitB n
 ·simp
 ·simp [ZNw]
theorem ZNz:∀ (es l:List Int),(es.foldl layS l).length≤l.length+es.length
 | [],l=>Nat.le_refl _
 | e::r,l=>by
  have:=ZNz r (layS l e)
  have:=Zhy l e
  simp only [List.foldl_cons,List.length_cons];omega
theorem ZRA:∀ (es:List Int) {l:List Int},l.Pairwise (· < ·)→(es.foldl layS l).Pairwise (· < ·)
 | [],_,h=>h
 | e::r,_,h=>ZRA r (ZYI h e)
theorem ZUa (x:Int):∀ (es l:List Int),x∈es.foldl layS l↔(x∈es∧fitB x=true)∨x∈l
 | [],l=>by simp
 | e::r,l=>by
  rw [List.foldl_cons,ZUa x r,Z0b,List.mem_cons]
  constructor
  ·rintro (⟨h,k⟩ | ⟨rfl,k⟩ | h)
   ·exact .inl ⟨.inr h,k⟩
   ·exact .inl ⟨.inl rfl,k⟩
   ·exact .inr h
  ·rintro (⟨rfl | h,k⟩ | h)
   ·exact .inr (.inl ⟨rfl,k⟩)
   ·exact .inl ⟨h,k⟩
   ·exact .inr (.inr h)
def actS (l:List Int) (a:A):List Int:=bif a.1==1 then layS (layS (layS l a.2.2.2.2.2.1) (a.2.2.2.2.2.1 - 1)) (a.2.2.2.2.2.1+1) else l
theorem ZTm (l:List Int) (a:A):(actS l a).length≤l.length+3:=by
 unfold actS
 have h1:=Zhy l a.2.2.2.2.2.1
 have h2:=Zhy (layS l a.2.2.2.2.2.1) (a.2.2.2.2.2.1 - 1)
 have h3:=Zhy (layS (layS l a.2.2.2.2.2.1) (a.2.2.2.2.2.1 - 1)) (a.2.2.2.2.2.1+1)
 cases a.1==1
 ·simp only [cond_false];omega
 ·simp only [cond_true];omega
theorem ZTn:∀ (r:List A) (l:List Int),(r.foldl actS l).length≤l.length+3*r.length
 | [],l=>by simp
 | a::r,l=>by
  have:=ZTn r (actS l a)
  have:=ZTm l a
  simp only [List.foldl_cons,List.length_cons];omega
theorem Z1G (u:U) (l:List Int) (h:l.length+u.1.length≤10000):ZcE (l,0,u)=some (u.1.foldl layS l,u):=by
 have:=ZGe u.2.1 u.2.2.1 u.2.2.2 u.1 l (by omega)
 refine this.trans ?_
 unfold ZkK
 rw [Zg3 (g:=layS) (fun s r=>s.length+r.length≤10000) (fun j s d r h=>?_) u.1 0 l h]
 ·rfl
 ·rw [List.length_cons] at h
  have:=Zhy s d
  refine ⟨?_,by omega⟩
  have e1:=ZoH s d (by omega)
  simp only [ZeQ,V1,e1,Zb]
def arrS (l:List Int) (d:Int):List Int:=layS (layS l d) (d - 1)
theorem ZTp (l:List Int) (d:Int):(arrS l d).length≤l.length+2:=by
 unfold arrS
 have h1:=Zhy l d
 have h2:=Zhy (layS l d) (d - 1)
 omega
theorem Z20 (u:U) (l:List Int) (hu:∀ n∈u.2.1,1≤n∧n≤16) (h:l.length+2*u.2.1.length≤10000):ZcF (l,0,u)=some (u.2.1.foldl arrS l,u):=by
 have:=ZGf u.1 u.2.2.1 u.2.2.2 u.2.1 l (by omega)
 refine this.trans ?_
 unfold ZkL
 rw [Zg3 (g:=arrS) (fun s r=>s.length+2*r.length≤10000∧∀ n∈r,1≤n∧n≤16) (fun j s d r h=>?_) u.2.1 0 l ⟨h,hu⟩]
 ·rfl
 ·have h':=h.1
  rw [List.length_cons] at h'
  have h1:=Zhy s d
  have h2:=ZTp s d
  have hd:=h.2 d (by simp)
  refine ⟨?_,by omega,fun n hn=>h.2 n (by simp [hn])⟩
  have w:IntKind.i64.wrap (d - 1)=d - 1:=ZrC (by omega) (by omega)
  have e1:=ZoH s d (by omega)
  have e2:=ZoH (layS s d) (d - 1) (by omega)
  simp only [ZeR,V1,w,e1,e2,Zb]
  rfl
def bodyA {Y:Type} (s:List Int) (a:A):Option (List Int⊕Y):=bif a.1==1 then optC (Zdg s a.2.2.2.2.2.1) none fun p=>optC (Zdg p (IntKind.i64.wrap (a.2.2.2.2.2.1 - 1))) none fun q=>optC (Zdg q (IntKind.i64.wrap (a.2.2.2.2.2.1+1))) none fun r=>some (.inl r) else some (.inl s)
theorem ZZR {Y:Type} {s:List Int} {a:A} (h:s.length≤9000) (hf:fitB a.2.2.2.2.2.1=true):(bodyA s a:Option (List Int⊕Y))=some (.inl (actS s a)):=by
 have f:=W9.1 hf
 have w1:IntKind.i64.wrap (a.2.2.2.2.2.1 - 1)=a.2.2.2.2.2.1 - 1:=ZrC (by omega) (by omega)
 have w2:IntKind.i64.wrap (a.2.2.2.2.2.1+1)=a.2.2.2.2.2.1+1:=ZrC (by omega) (by omega)
 have h1:=Zhy s a.2.2.2.2.2.1
 have h2:=Zhy (layS s a.2.2.2.2.2.1) (a.2.2.2.2.2.1 - 1)
 have e1:=ZoH s a.2.2.2.2.2.1 (by omega)
 have e2:=ZoH (layS s a.2.2.2.2.2.1) (a.2.2.2.2.2.1 - 1) (by omega)
 have e3:=ZoH (layS (layS s a.2.2.2.2.2.1) (a.2.2.2.2.2.1 - 1)) (a.2.2.2.2.2.1+1) (by omega)
 unfold bodyA actS
 cases a.1==1
 ·rfl
 ·simp only [cond_true,w1,w2,e1,e2,e3,Zb]
theorem Z1F (u:U) (c:C) {i:Nat} (hc:u.2.2.2[i]? = some c) (hf:∀ a∈c.2,fitB a.2.2.2.2.2.1=true) (hn:c.2.length≤60) (l:List Int) (h:l.length≤8000) :
  ZcG (l,(i:Int),0,u)=some (c.2.foldl actS l,(i:Int),u):=by
 unfold ZcG
 have e0:decide (0≤(i:Int))=true:=decide_eq_true (by omega)
 have:=Zk (step:=fun x:YT=>Wa x.1 x.2.1 x.2.2.1 x.2.2.2.1 x.2.2.2.2.1 x.2.2.2.2.2.1 x.2.2.2.2.2.2) c.2 (fun j s=>(s,(i:Int),(j:Int),u.1,u.2.1,u.2.2.1,u.2.2.2)) (fun _ s a=>bodyA s a) (fun s=>some (s,(i:Int),u.1,u.2.1,u.2.2.1,u.2.2.2)) ?_ ?_ l (n:=Zj) (by unfold Zj;omega)
 ·refine this.trans ?_
  rw [Zg3 (g:=actS) (fun s r=>s.length+3*r.length≤9000∧∀ a∈r,fitB a.2.2.2.2.2.1=true) (fun j s d r h=>?_) c.2 0 l ⟨by omega,hf⟩]
  have h1:=h.1
  rw [List.length_cons] at h1
  have:=ZTm s d
  exact ⟨ZZR (by omega) (h.2 d (by simp)),by omega,fun a ha=>h.2 a (by simp [ha])⟩
 ·intro j s d hj hd
  show Wa s (i:Int) (j:Int) u.1 u.2.1 u.2.2.1 u.2.2.2=_
  have w:=Zm (i:=j) (n:=c.2.length) hj (by omega)
  have e1:decide ((j:Int)<(c.2.length:Int))=true:=decide_eq_true (by omega)
  have e2:decide (0≤(j:Int))=true:=decide_eq_true (by omega)
  simp only [Zcd,Wa,e0,e1,e2,cond_true,Int.toNat_natCast,hc,hd,Zb,w,V1,bodyA]
  cases d.1==1
  ·rfl
  ·simp only [cond_true]
   cases Zdg s d.2.2.2.2.2.1 with
   | none=>rfl
   | some p=>
    simp only [Zb]
    cases Zdg p (IntKind.i64.wrap (d.2.2.2.2.2.1 - 1)) with
    | none=>rfl
    | some q=>
     simp only [Zb]
     cases Zdg q (IntKind.i64.wrap (d.2.2.2.2.2.1+1))<;>rfl
 ·intro s
  show Wa s (i:Int) (c.2.length:Int) u.1 u.2.1 u.2.2.1 u.2.2.2=_
  have e1:decide ((c.2.length:Int)<(c.2.length:Int))=false:=decide_eq_false (by omega)
  simp only [Zcd,Wa,e0,e1,cond_true,cond_false,Int.toNat_natCast,hc,Zb]
  rfl
def thrS (l:List Int) (c:C):List Int:=c.2.foldl actS l
theorem Z21 (u:U) (hu:unitOK u) (l:List Int) (h:l.length≤7000):ZfP (l,0,u)=some (u.2.2.2.foldl thrS l):=by
 have ht:=hu.t
 have go:∀ (r:List C) (i:Nat) (s:List Int) (k:Nat),u.2.2.2.drop i=r→i+r.length=u.2.2.2.length→s.length+180*r.length≤8000→
   iterO Wc (k+r.length+1) (s,(i:Int),u)=some (r.foldl thrS s):=by
  intro r
  induction r with
  | nil=>
   intro i s k hd hi hs
   have e:decide ((i:Int)<(u.2.2.2.length:Int))=false:=decide_eq_false (by simp at hi;omega)
   simp only [iterO,Wc,ZkS,e,cond_false]
   rfl
  | cons c r ih=>
   intro i s k hd hi hs
   rw [List.length_cons] at hi hs ⊢
   have hc:u.2.2.2[i]? = some c:=by
    have:=congrArg (fun q=>q[0]?) hd
    simpa using this
   have ho:=hu.ts c (List.mem_of_getElem? hc)
   have e:decide ((i:Int)<(u.2.2.2.length:Int))=true:=decide_eq_true (by omega)
   have w:=Zm (i:=i) (n:=u.2.2.2.length) (by omega) (by omega)
   have a1:=Z1F u c hc (fun a ha=>(ho.a a ha).n) ho.n.2 s (by omega)
   have a2:=ZTn c.2 s
   have:=ho.n.2
   rw [show k+(r.length+1)+1=(k+r.length+1)+1 by omega,iterO]
   have a1':ZcG (s,(i:Int),0,u.1,u.2.1,u.2.2.1,u.2.2.2)=some (c.2.foldl actS s,(i:Int),u):=a1
   simp only [Wc,ZkS,e,cond_true,a1',Zb,w]
   exact ih (i+1) (thrS s c) k (by rw [← List.drop_drop,hd];rfl) (by omega) (by show (c.2.foldl actS s).length+_≤_;omega)
 unfold ZfP
 have:=go u.2.2.2 0 l (Zj - u.2.2.2.length - 1) rfl (by simp) (by omega)
 rw [show Zj - u.2.2.2.length - 1+u.2.2.2.length+1=Zj by unfold Zj;omega] at this
 exact this
def ZJ (u:U):List Int:=u.2.2.2.foldl thrS (u.2.1.foldl arrS (u.1.foldl layS [-1,0,1]))
theorem ZTq:∀ (r l:List Int),(r.foldl arrS l).length≤l.length+2*r.length
 | [],l=>by simp
 | a::r,l=>by
  have:=ZTq r (arrS l a)
  have:=ZTp l a
  simp only [List.foldl_cons,List.length_cons];omega
theorem ZUn (u:U) (hu:unitOK u):ZnS u=some (ZJ u):=by
 have g1:=hu.g
 have g2:=hu.a
 have l1:=ZNz u.1 [-1,0,1]
 have l2:=ZTq u.2.1 (u.1.foldl layS [-1,0,1])
 have l3:([-1,0,1]:List Int).length=3:=rfl
 unfold ZnS
 rw [Z1G u [-1,0,1] (by omega)]
 simp only [Zb]
 rw [Z20 u _ (fun n hn=>hu.ars n hn) (by omega)]
 simp only [Zb]
 rw [Z21 u hu _ (by omega)]
 rfl
end
end Go.Proofs.YtbdcblpjemmipaaGreat.Ex
