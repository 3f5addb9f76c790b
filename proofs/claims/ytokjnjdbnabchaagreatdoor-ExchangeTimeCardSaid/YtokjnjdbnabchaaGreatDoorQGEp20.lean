/- Fr1, Fr2. -/
import Derived.Test.YtokjnjdbnabchaaGreatDoorQGEp19
import Derived.Test.YtokjnjdbnabchaaGreatDoorQGEp24
namespace Go.Proofs.YtokjnjdbnabchaaGreatDoor
open Go.RowKit Go.Shelf
section
inductive Cst where|of|amt|code|P|L|tr
deriving DecidableEq
inductive D where
 |mk (j:Nat) (big:Bool)
 |ld (d s:Nat) (T:Nat) (c:Cst)
 |mc (d s:Nat) (c:Cst)
 |mv (d j:Nat)
 |asg (d j:Nat)
 |sl (d:Nat) (l:List Nat)
 |cof (d f m j s:Nat) (word:List UInt8) (cls:Int) (more:List Nat)
 |cot (d f m s:Nat) (word:List UInt8) (cls:Int) (more:List Nat)
 |cno (d f s:Nat) (word:List UInt8) (cls:Int) (more:List Nat)
 |cam (d f:Nat) (word:List UInt8)
 |cco (d f x:Nat)
 |cbt (d:Nat)
 |ins (j:Nat) (big:Bool) (key:Int) (src:Nat)
deriving DecidableEq
def D.dst:D->Option Nat
 | .mk j _=>some j| .ld d _ _ _=>some d| .mc d _ _=>some d| .mv d _=>some d| .asg d _=>some d| .sl d _=>some d| .cof d _ _ _ _ _ _ _=>some d| .cot d _ _ _ _ _ _=>some d
 | .cno d _ _ _ _ _=>some d| .cam d _ _=>some d| .cco d _ _=>some d| .cbt d=>some d| .ins _ _ _ _=>none
def D.slots:D->List Nat
 | .mk j _=>[j]| .ld d _ _ _=>[d]| .mc d _ _=>[d]| .mv d j=>[d,j]| .asg d j=>[d,j]| .sl d _=>[d]| .cof d _ m _ _ _ _ _=>[d,m]| .cot d _ _ _ _ _ _=>[d]
 | .cno d _ _ _ _ _=>[d]| .cam d _ _=>[d]| .cco d _ x=>[d,x]| .cbt d=>[d]| .ins _ _ _ src=>[src]
def D.op:D->Op
 | .mk _ big=>.makeMap (if big then 184 else 180) none
 | .ld _ s T _=>.load T (.tmp s)
 | .mc _ s _=>.move (.tmp s)
 | .mv _ j=>.move (.tmp j)
 | .asg _ j=>.assign (.tmp j)
 | .sl _ l=>.buildSlice 127 l.length (l.mapIdx fun i x=>(i,.const (.int .i64 (x:Int)))).toArray
 | .cof _ f m _ s word cls _=>.call {callee:=.value (.tmp f),args:=#[.const (.string ⟨word.toArray⟩),.const (.int .i64 cls),.tmp m,.tmp s],argTypes:=#[9,3,180,127]}
 | .cot _ f m s word cls _=>.call {callee:=.value (.tmp f),args:=#[.const (.string ⟨word.toArray⟩),.const (.int .i64 cls),.tmp m,.tmp s],argTypes:=#[9,3,180,127]}
 | .cno _ f s word cls _=>.call {callee:=.value (.tmp f),args:=#[.const (.string ⟨word.toArray⟩),.const (.int .i64 cls),.const (.map none),.tmp s],argTypes:=#[9,3,180,127]}
 | .cam _ f word=>.call {callee:=.value (.tmp f),args:=#[.const (.string ⟨word.toArray⟩)],argTypes:=#[9]}
 | .cco _ f x=>.call {callee:=.value (.tmp f),args:=#[.tmp x],argTypes:=#[182]}
 | .cbt _=>.call {callee:=.value (.func 202),args:=#[.const (.bool false),.const (.bool true)],argTypes:=#[4,4]}
 | .ins j big key src=>.insert (if big then 184 else 180) (.tmp j) (.const (.int .i64 key)) (.tmp src)
def VE(id:Nat):Code->Option (Array Oper)
 | .region k ops _=>if k==id then some ops else none
 | .seq a b=>match VE id a with|some x=>some x|none=>VE id b
 | .cond _ a b=>match VE id a with|some x=>some x|none=>VE id b
 | .block _ a=>VE id a
 | .loop a=>VE id a
 | .scope a=>VE id a
 |_=>none
noncomputable def Xm:Array Oper:=((Tryz.f148.body).bind (VE 6)).getD #[]
def Qy:List D:=[
 .mk 15 true,
 .mc 16 4 .amt,
 .cam 17 16 [100,101,112,111,115,105,116],
 .ins 15 true 1 17,
 .mc 18 4 .amt,
 .cam 19 18 [119,105,116,104,100,114,97,119],
 .ins 15 true 2 19,
 .ld 20 3 232 .of,
 .mc 21 6 .tr,
 .sl 22 [0],
 .cot 23 20 21 22 [98,117,121] 3 [0],
 .ins 15 true 3 23,
 .ld 24 3 232 .of,
 .mc 25 6 .tr,
 .sl 26 [0,10],
 .cot 27 24 25 26 [115,101,108,108] 3 [0,10],
 .ins 15 true 4 27,
 .ld 28 3 232 .of,
 .mk 29 false,
 .ld 30 1 230 .P,
 .ins 29 false 7 30,
 .mv 31 29,
 .sl 32 [0],
 .cof 33 28 31 29 32 [105,110,99,111,109,101] 1 [0],
 .ins 15 true 5 33,
 .mc 34 4 .amt,
 .cam 35 34 [101,120,112,101,110,115,101],
 .ins 15 true 6 35,
 .mc 36 5 .code,
 .ld 37 3 232 .of,
 .mk 38 false,
 .ld 39 1 230 .P,
 .ins 38 false 4 39,
 .ld 40 1 230 .P,
 .ins 38 false 5 40,
 .mv 41 38,
 .sl 42 [1,2],
 .cof 43 37 41 38 42 [99,111,110,118,101,114,116] 2 [1,2],
 .cco 44 36 43,
 .ins 15 true 7 44,
 .ld 45 3 232 .of,
 .mk 46 false,
 .mc 47 2 .L,
 .ins 46 false 7 47,
 .ld 48 1 230 .P,
 .ins 46 false 8 48,
 .mv 49 46,
 .sl 50 [0],
 .cof 51 45 49 46 50 [115,112,108,105,116] 1 [0],
 .ins 15 true 8 51,
 .ld 52 3 232 .of,
 .mk 53 false,
 .mc 54 2 .L,
 .ins 53 false 7 54,
 .ld 55 1 230 .P,
 .ins 53 false 8 55,
 .cbt 56,
 .ins 53 false 9 56,
 .mv 57 53,
 .sl 58 [0,1],
 .cof 59 52 57 53 58 [115,112,105,110,111,102,102] 1 [0,1],
 .ins 15 true 9 59,
 .ld 60 3 232 .of,
 .sl 61 [0,11],
 .cno 62 60 61 [101,120,99,104,97,110,103,101] 1 [0,11],
 .ins 15 true 10 62,
 .ld 63 3 232 .of,
 .sl 64 [0,3,12],
 .cno 65 63 64 [101,108,101,99,116] 4 [0,3,12],
 .ins 15 true 11 65,
 .ld 66 3 232 .of,
 .mk 67 false,
 .ld 68 1 230 .P,
 .ins 67 false 4 68,
 .mc 69 2 .L,
 .ins 67 false 7 69,
 .ld 70 1 230 .P,
 .ins 67 false 8 70,
 .mv 71 67,
 .sl 72 [0,1],
 .cof 73 66 71 67 72 [101,120,101,114,99,105,115,101] 3 [0,1],
 .ins 15 true 12 73,
 .ld 74 3 232 .of,
 .mk 75 false,
 .ld 76 1 230 .P,
 .ins 75 false 7 76,
 .mv 77 75,
 .sl 78 [0],
 .cof 79 74 77 75 78 [99,97,112,105,116,97,108] 1 [0],
 .ins 15 true 13 79,
 .ld 80 3 232 .of,
 .mk 81 false,
 .mc 82 2 .L,
 .ins 81 false 7 82,
 .mv 83 81,
 .sl 84 [0],
 .cof 85 80 83 81 84 [99,97,108,108] 1 [0],
 .ins 15 true 14 85,
 .ld 86 3 232 .of,
 .mk 87 false,
 .mc 88 2 .L,
 .ins 87 false 7 88,
 .mv 89 87,
 .sl 90 [0],
 .cof 91 86 89 87 90 [112,114,105,99,101] 4 [0],
 .ins 15 true 15 91,
 .mc 92 5 .code,
 .ld 93 3 232 .of,
 .mk 94 false,
 .ld 95 1 230 .P,
 .ins 94 false 8 95,
 .mv 96 94,
 .sl 97 [1,2],
 .cof 98 93 96 94 97 [114,97,116,101] 4 [1,2],
 .cco 99 92 98,
 .ins 15 true 16 99,
 .mc 100 4 .amt,
 .cam 101 100 [105,115,115,117,101],
 .ins 15 true 17 101,
 .mc 102 4 .amt,
 .cam 103 102 [99,97,110,99,101,108],
 .ins 15 true 18 103,
 .mv 104 15,
 .asg 0 104]
def QN(j:Nat):List (Nat×Int×Nat):=
 match j with
 |15=>[(3,1,17),(6,2,19),(11,3,23),(16,4,27),(24,5,33),(27,6,35),(39,7,44),(49,8,51),(61,9,59),(65,10,62),(69,11,65),(81,12,73),(89,13,79),(97,14,85),(105,15,91),(115,16,99),(118,17,101),(121,18,103)]
 |29=>[(20,7,30)]
 |38=>[(32,4,39),(34,5,40)]
 |46=>[(43,7,47),(45,8,48)]
 |53=>[(53,7,54),(55,8,55),(57,9,56)]
 |67=>[(73,4,68),(75,7,69),(77,8,70)]
 |75=>[(85,7,76)]
 |81=>[(93,7,82)]
 |87=>[(101,7,88)]
 |94=>[(110,8,95)]
 |_=>[]
def Yr(s:Nat):Bool×Bool:=
 match s with
 |30=>(true,false)
 |39=>(true,false)
 |40=>(true,false)
 |47=>(false,false)
 |48=>(true,false)
 |54=>(false,false)
 |55=>(true,false)
 |56=>(false,true)
 |68=>(true,false)
 |69=>(false,false)
 |70=>(true,false)
 |76=>(true,false)
 |82=>(false,false)
 |88=>(false,false)
 |95=>(true,false)
 |_=>(false,false)
def Xh(j:Nat):List (Nat×Bool×Bool):=(QN j).map fun x=>(x.2.1.toNat,Yr x.2.2)
noncomputable def Xu(i n:Nat):Bool:=match Xm[i]? with|some o=>o.after.any (fun e=>e.on==n)|none=>false
theorem ZfY:Xm.toList.map (fun o=>(o.dst,o.op,o.guard))=Qy.map (fun d=>(d.dst,d.op,none)):=by kernel_rfl
theorem ZeL:((List.range 124).all fun i=>match Xm[i]? with|some o=>o.after.all (fun e=>decide (e.on<i)&&Region.binds .any e)|none=>false)=true:=by kernel_rfl
theorem Yg:Xm.size=124:=by kernel_rfl
theorem Zcz:Qy.length=124:=by kernel_rfl
noncomputable def YH(i:Nat)(d:D):Bool:=(List.range 124).any fun n=>decide (Qy[n]?=some d)&&Xu i n
noncomputable def chk(i:Nat):Bool:=
 match Qy[i]? with
 |some (.cof _d f m j s _ _ more)=>YH i (.ld f 3 232 .of)&&YH i (.sl s more)&&decide ((List.range 124).any (fun n=>decide (Qy[n]?=some (.mv m j))&&Xu i n&&((QN j).all fun x=>Xu n x.1)&&YH n (.mk j false))=true)&&more.all (fun x=>decide (x<=12))&&decide (more.length<=1000)&&(Xh j).all (fun x=>decide (x.1<=12))&&decide ((j==15)=false)&&decide ((QN j).map (fun x=>x.2.1)=(Xh j).map (fun x=>(x.1:Int)))
 |some (.cot _d f m s _ _ more)=>YH i (.ld f 3 232 .of)&&YH i (.sl s more)&&YH i (.mc m 6 .tr)&&more.all (fun x=>decide (x<=12))&&decide (more.length<=1000)
 |some (.cno _d f s _ _ more)=>YH i (.ld f 3 232 .of)&&YH i (.sl s more)&&more.all (fun x=>decide (x<=12))&&decide (more.length<=1000)
 |some (.cam _d f _)=>YH i (.mc f 4 .amt)
 |some (.cco _d f x)=>YH i (.mc f 5 .code)&&(List.range 124).any (fun n=>(match Qy[n]? with|some (.cof d' _ _ _ _ _ _ _)=>d'==x|_=>false)&&Xu i n)
 |some (.ins j big key src)=>YH i (.mk j big)&&decide ((QN j).find? (fun y=>y.2.1==key)=some (i,key,src))&&decide (j<1000)&&(big||((YH i (.ld src 1 230 .P)&&decide (Yr src=(true,false)))||(YH i (.mc src 2 .L)&&decide (Yr src=(false,false)))||(YH i (.cbt src)&&decide (Yr src=(false,true)))))&&decide (-9223372036854775808<=key/\key<=9223372036854775807)&&decide ((QN j).length<=50)
 |some (.mk j _)=>decide (j<1000)&&(QN j).all (fun x=>decide (∃big,big=(j==15)/\Qy[x.1]?=some (.ins j big x.2.1 x.2.2)))
 |some (.ld _ s T c)=>decide ((s=3/\T=232/\c=.of)\/(s=1/\T=230/\c=.P))
 |some (.mc _ s c)=>decide ((s=2/\c=.L)\/(s=4/\c=.amt)\/(s=5/\c=.code)\/(s=6/\c=.tr))
 |some (.sl _ l)=>decide (l∈[[0],[0,10],[1,2],[0,1],[0,11],[0,3,12]])
 |_=>true
theorem ZfZ:((List.range 124).all chk)=true:=by kernel_rfl
theorem Zdr:((List.range 124).all fun k=>match Qy[k]? with|some e=>e.slots.all (fun s=>(List.range 124).all fun i=>match Qy[i]? with|some d=> !decide (d.dst=some s)||i==k||Xu k i|none=>true)|none=>true)=true:=by kernel_rfl
theorem Zf0:(Qy.all fun d=>match d.dst with|some s=>decide (s<105)&& !([1,2,3,4,5,6].contains s)|none=>true)=true:=by kernel_rfl
end
section
abbrev Qo(a:Act)(s:Nat):Value:=a.eval (.tmp s)
section
variable {o:Oper} {a:Act} {w:World} {K:Act->World->Prop} {Q:Exit->Act->World->Prop}
theorem ZiP{T:TypeId}(ho:o.op=.makeMap T none)(h:K (a.put o.dst (.map (some w.1.size))) (w.alloc (.map #[] 0))):o.wp Tryz.prog a w K Q:=by
 unfold Oper.wp;simp[execOp,ho,run_makeMap,Result.andThen]
 exact h
theorem ZcA{s:Nat}(ho:o.op=.move (.tmp s)\/o.op=.assign (.tmp s))(h:K (a.put o.dst (Qo a s)) w):o.wp Tryz.prog a w K Q:=by
 unfold Oper.wp
 rcases ho with ho|ho
 ·simp[execOp,ho]
  exact h
 ·simp[execOp,ho]
  exact h
theorem Zh2{s B:Nat}{T:TypeId}{v:Value}(hT:T=232\/T=230)(ho:o.op=.load T (.tmp s))(hs:Qo a s=.pointer (some ⟨B,0,none⟩))(hb:w.cell? ⟨B,0,none⟩=some v)(h:K (a.put o.dst v) w):o.wp Tryz.prog a w K Q:=by
 have e:(Instr.loadAt T (.pointer (some ⟨B,0,none⟩))).run Tryz.prog w=.ok v w:=by
  rcases hT with rfl|rfl<;>simp[go_sem,hb]
 unfold Oper.wp;simp[execOp,ho,hs,e,Result.andThen]
 exact h
theorem ZiQ{l:List Nat}(hl:l∈[[0],[0,10],[1,2],[0,1],[0,11],[0,3,12]])(ho:o.op=.buildSlice 127 l.length (l.mapIdx fun i (x:Nat)=>(i,Operand.const (.int .i64 (x:Int)))).toArray)
 (h:K (a.put o.dst (.slice (some ⟨w.1.size,0,none⟩) l.length l.length)) (w.alloc (.cells (l.map (fun(x:Nat)=>Value.int .i64 (x:Int))).toArray 3))):o.wp Tryz.prog a w K Q:=by
 unfold Oper.wp;simp only[List.mem_cons,List.mem_nil_iff,or_false] at hl
 rcases hl with rfl|rfl|rfl|rfl|rfl|rfl
 all_goals
  simp[execOp,ho,go_sem,Act.eval,Result.andThen]
  exact h
theorem Zip{T:TypeId}{j src b:Nat}{key:Int}{w':World}(ho:o.op=.insert T (.tmp j) (.const (.int .i64 key)) (.tmp src))(hj:Qo a j=.map (some b))(hr:(Instr.mapUpdate T (.map (some b)) (.int .i64 key) (Qo a src)).run Tryz.prog w=.ok () w')(h:K (a.put o.dst undef) w'):o.wp Tryz.prog a w K Q:=by
 unfold Oper.wp;have e:a.eval (.const (.int .i64 key))=.int .i64 key:=rfl;simp[execOp,ho,hj,e,hr,Result.andThen]
 exact h
theorem Yo{c:Call}{f:FuncId}{args:Array Value}(ho:o.op=.call c)(hc:∀w,(do let d <-resolve a.eval c o.type;invoke d.target d.args:Sem Next).run Tryz.prog w=.ok (.enter f args) w){R:Ending->World->Prop}(hR:Calls Tryz.prog f args w R)(h:∀e w',R e w'->∃v,e=.returned v/\K (a.put o.dst v) w'):o.wp Tryz.prog a w K Q:=by
 unfold Oper.wp
 have e:(execOp a.eval o).run Tryz.prog w=.ok (.enter f args) w:=by
  unfold execOp;rw[ho];exact hc w
 rw[e];refine hR.mono fun e w' he=> ?_
 obtain⟨v,rfl,hk⟩:=h e w' he
 exact hk
end
end
end Go.Proofs.YtokjnjdbnabchaaGreatDoor
