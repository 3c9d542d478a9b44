/- Lemmas. -/
import Derived.Test.YthpkmilhiganjaaGreatPLc
set_option linter.unusedSimpArgs false
set_option linter.unusedVariables false
set_option linter.unusedSectionVars false
set_option maxHeartbeats 32000000
set_option maxRecDepth 100000
namespace Go.Fi
open Go Go.RowKit
variable[ar]
variable{fk:Fk}
@[congr] theorem PQ{P:Program}{c:Code}{st st':St}{K:Exit→St→Prop}(h:st=st'):aY fk P c st K=aY fk P c st' K:=by rw[h]
@[congr] theorem PR{P:Program}{ops:Array Oper}{nt:Nat}{os:List Oper}{e e':Env}{h h':aj}{n n':Nat}{K:Env→aj→Nat→Prop}(h1:e=e')(h2:h=h')(h3:n=n'):bu P ops nt os e h n K=bu P ops nt os e' h' n' K:=by rw[h1,h2,h3]
@[congr] theorem PS{P:Program}{ops:Array Oper}{nt:Nat}{os:List Oper}{e e':Env}{h h':aj}{n n':Nat}{K:Env→aj→Nat→Prop}(h1:e=e')(h2:h=h')(h3:n=n'):dF P ops nt os e h n K=dF P ops nt os e' h' n' K:=by rw[h1,h2,h3]
@[congr] theorem PT{P:Program}{env env':Env}{h h':aj}{n n':Nat}{op:Op}{K:AV→aj→Nat→Prop}(h1:env=env')(h2:h=h')(h3:n=n'):bn P env h n op K=bn P env' h' n' op K:=by rw[h1,h2,h3]
@[congr] theorem PU{P:Program}{env env':Env}{h h':aj}{n n':Nat}{op:Op}{K:AV→List (List AV)→Prop}(h1:env=env')(h2:h=h')(h3:n=n'):bm P env h n op K=bm P env' h' n' op K:=by rw[h1,h2,h3]
@[congr] theorem PW{P:Program}{g:FuncId}{args args':List PV}{K:PV→Bool→Prop}{K2:List (List AV)→AV→Prop}{mk:Mark (K,K2)}(h:args=args'):CW P g args K K2 mk=CW P g args' K K2 mk:=by rw[h]
def aW(r:Option (Prop×AV×List (List AV)))(K:AV→List (List AV)→Prop)(_:Mark K):Prop:=
 match r with
 |some (c,v,E)=>c∧K v E
 |none=>False
section
omit [ar]
@[congr] theorem PX{r r':Option (Prop×AV×List (List AV))}{K:AV→List (List AV)→Prop}{mk:Mark K}(h:r=r'):aW r K mk=aW r' K mk:=by rw[h]
@[simp] theorem PY(c:Prop)(v:AV)(E:List (List AV))(K:AV→List (List AV)→Prop)(mk:Mark K):aW (some (c,v,E)) K mk=(c∧K v E):=rfl
@[simp] theorem PZ(K:AV→List (List AV)→Prop)(mk:Mark K):aW none K mk=False:=rfl
end
section
variable{P:Program}{ops:Array Oper}{nt:Nat}{env:Env}{h:aj}{n:Nat}
@[simp ↓] theorem P4(K:Env→aj→Nat→Prop):bu P ops nt [] env h n K=K env h n:=rfl
@[simp ↓] theorem P5(K:Env→aj→Nat→Prop):dF P ops nt [] env h n K=K env h n:=rfl
section
omit [ar]
@[simp] theorem P6(d:Nat):dOk nt (some d)=(d<nt):=rfl
@[simp] theorem P7:dOk nt none=True:=rfl
@[simp] theorem P8(d:Nat)(v:AV):put env (some d) v=(d,v)::env:=rfl
@[simp] theorem P9(v:AV):put env none v=env:=rfl
@[simp] theorem Qa:ba h n []=h:=rfl
@[simp] theorem Qb(c:List AV):ba h n [c]=(n,c)::h:=rfl
@[simp] theorem Qc(t:Nat):get [] t=.w false false .undef:=rfl
@[simp] theorem Qd(k t:Nat)(v:AV):get ((k,v)::env) t=if k=t then v else get env t:=rfl
@[simp] theorem Qe(k t:Nat)(v:List AV):aV ((k,v)::h) t=if k=t then some v else aV h t:=rfl
@[simp] theorem Qf(t:Nat):aV [] t=none:=rfl
@[simp] theorem Qg(k t:Nat)(v x:List AV):br ((k,v)::h) t x=if k=t then (k,x)::h else (k,v)::br h t x:=rfl
@[simp] theorem Qh(t:Nat):ev env (.tmp t)=get env t:=rfl
@[simp] theorem Qi(v:Value):ev env (.const v)=cst v:=rfl
@[simp] theorem Qj(f:FuncId):ev env (.func f)=.fn f []:=rfl
end
attribute [simp] cst jq
@[simp ↓] theorem Qk(dst:Option Tmp)(op:Op)(ty:TypeId)(pos:String)(after:Array Edge)(os:List Oper)(K:Env→aj→Nat→Prop):bu P ops nt (⟨dst,op,ty,pos,after,none⟩::os) env h n K=(dOk nt dst∧bn P env h n op fun v h' n'=>bu P ops nt os (put env dst v) h' n' K):=by
 simp[bu,dw]
@[simp ↓] theorem Ql(dst:Option Tmp)(op:Op)(ty:TypeId)(pos:String)(after:Array Edge)(os:List Oper)(K:Env→aj→Nat→Prop):dF P ops nt (⟨dst,op,ty,pos,after,none⟩::os) env h n K=(dOk nt dst∧bm P env h n op fun v E=>dF P ops nt os (put env dst v) (ba h n E) (n+E.length) K):=by
 simp[dF,dw]
def gW(g:Option Bool)(X Y:Prop):Prop:=
 match g with
 |some b=>(b=true→X)∧(b=false→Y)
 |none=>False
section
omit [ar]
@[congr] theorem Qm{g g':Option Bool}{X Y:Prop}(h:g=g'):gW g X Y=gW g' X Y:=by rw[h]
@[simp] theorem xU(X Y:Prop):gW (some true) X Y=X:=by simp[gW]
@[simp] theorem xV(X Y:Prop):gW (some false) X Y=Y:=by simp[gW]
end
def qN(v:AV)(want:Bool):Option Bool:=
 match v with
 |.w _ _ (.bool b)=>some (b==want)
 |.tup []=>some false
 |_=>none
omit [ar] in
@[simp] theorem Qn(o f b want:Bool):qN (.w o f (.bool b)) want=some (b==want):=rfl
omit [ar] in
@[simp] theorem Qo(want:Bool):qN (.tup []) want=some false:=rfl
def gOf(ops:Array Oper)(env:Env)(j:Nat)(want:Bool):Option Bool:=
 match bT ops j with
 |none=>some false
 |some t=>qN (get env t) want
omit [ar] in
theorem xW(dst:Option Tmp)(op:Op)(ty:TypeId)(pos:String)(after:Array Edge)(j:Nat)(want:Bool):dw ops env ⟨dst,op,ty,pos,after,some (j,want)⟩=gOf ops env j want:=by
 unfold dw gOf bT;dsimp only
 cases (ops[j]?).bind (·.dst)<;>rfl
theorem JZ(dst:Option Tmp)(op:Op)(ty:TypeId)(pos:String)(after:Array Edge)(j:Nat)(want:Bool)(os:List Oper)(K:Env→aj→Nat→Prop):bu P ops nt (⟨dst,op,ty,pos,after,some (j,want)⟩::os) env h n K=(dOk nt dst∧gW (gOf ops env j want) (bn P env h n op fun v h' n'=>bu P ops nt os (put env dst v) h' n' K) (bu P ops nt os (put env dst (.tup [])) h n K)):=by
 conv=>lhs;unfold bu
 rw[xW]
 cases gOf ops env j want<;>simp[gW]
theorem J0(dst:Option Tmp)(op:Op)(ty:TypeId)(pos:String)(after:Array Edge)(j:Nat)(want:Bool)(os:List Oper)(K:Env→aj→Nat→Prop):dF P ops nt (⟨dst,op,ty,pos,after,some (j,want)⟩::os) env h n K=(dOk nt dst∧gW (gOf ops env j want) (bm P env h n op fun v E=>dF P ops nt os (put env dst v) (ba h n E) (n+E.length) K) (dF P ops nt os (put env dst (.tup [])) h n K)):=by
 conv=>lhs;unfold dF
 rw[xW]
 cases gOf ops env j want<;>simp[gW]
def gM(g:Option Bool)(X Y:Prop)(_:Mark (X,Y)):Prop:=gW g X Y
omit [ar] in
@[congr] theorem Qp{g g':Option Bool}{X Y:Prop}{mk:Mark (X,Y)}(h:g=g'):gM g X Y mk=gM g' X Y mk:=by rw[h]
def gE(g:Option Bool)(P:Program)(env:Env)(h:aj)(n:Nat)(op:Op)(K:AV→aj→Nat→Prop)(_:Mark K):Prop:=gW g (bn P env h n op K) (K (.tup []) h n)
def gQ(g:Option Bool)(P:Program)(env:Env)(h:aj)(n:Nat)(op:Op)(K:AV→List (List AV)→Prop)(_:Mark K):Prop:=gW g (bm P env h n op K) (K (.tup []) [])
@[congr] theorem Qq{g g':Option Bool}{P:Program}{env env':Env}{h h':aj}{n n':Nat}{op:Op}{K:AV→aj→Nat→Prop}{mk:Mark K}(e1:g=g')(e2:env=env')(e3:h=h')(e4:n=n'):gE g P env h n op K mk=gE g' P env' h' n' op K mk:=by rw[e1,e2,e3,e4]
@[congr] theorem Qr{g g':Option Bool}{P:Program}{env env':Env}{h h':aj}{n n':Nat}{op:Op}{K:AV→List (List AV)→Prop}{mk:Mark K}(e1:g=g')(e2:env=env')(e3:h=h')(e4:n=n'):gQ g P env h n op K mk=gQ g' P env' h' n' op K mk:=by rw[e1,e2,e3,e4]
section
variable{op:Op}{K:AV→aj→Nat→Prop}{mk:Mark K}{Kq:AV→List (List AV)→Prop}{mkq:Mark Kq}{b:Bool}{p:Prop}[Decidable p]
@[simp] theorem Qt:gE (some true) P env h n op K mk=bn P env h n op K:=by unfold gE;exact xU _ _
@[simp] theorem Qu:gE (some false) P env h n op K mk=K (.tup []) h n:=by unfold gE;exact xV _ _
@[simp] theorem Qv:gQ (some true) P env h n op Kq mkq=bm P env h n op Kq:=by unfold gQ;exact xU _ _
@[simp] theorem Qw:gQ (some false) P env h n op Kq mkq=Kq (.tup []) []:=by unfold gQ;exact xV _ _
theorem tA(hx:b=true→bn P env h n op K)(hy:b=false→K (.tup []) h n):gE (some b) P env h n op K mk:=⟨hx,hy⟩
theorem tB(hx:b=false→bn P env h n op K)(hy:b=true→K (.tup []) h n):gE (some (!b)) P env h n op K mk:=⟨fun h=>hx (by simpa using h),fun h=>hy (by simpa using h)⟩
theorem J1(hx:p→bn P env h n op K)(hy:¬p→K (.tup []) h n):gE (some (decide p)) P env h n op K mk:=⟨fun h=>hx (by simpa using h),fun h=>hy (by simpa using h)⟩
theorem J2(hx:¬p→bn P env h n op K)(hy:p→K (.tup []) h n):gE (some (!decide p)) P env h n op K mk:=⟨fun h=>hx (by simpa using h),fun h=>hy (by simpa using h)⟩
end
section
variable{dst:Option Tmp}{op:Op}{ty:TypeId}{pos:String}{after:Array Edge}{j:Nat}{want:Bool}{os:List Oper}
@[simp ↓] theorem Qx{K:Env→aj→Nat→Prop}:bu P ops nt (⟨dst,op,ty,pos,after,some (j,want)⟩::os) env h n K=(dOk nt dst∧gE (gOf ops env j want) P env h n op (fun v h' n'=>bu P ops nt os (put env dst v) h' n' K) .it):=JZ ..
@[simp ↓] theorem Qy{K:Env→aj→Nat→Prop}:dF P ops nt (⟨dst,op,ty,pos,after,some (j,want)⟩::os) env h n K=(dOk nt dst∧gQ (gOf ops env j want) P env h n op (fun v E=>dF P ops nt os (put env dst v) (ba h n E) (n+E.length) K) .it):=J0 ..
end
def jE:List Oper→Nat→Option Tmp
 |[],_=>none
 |o::_,0=>o.dst
 |_::r,k+1=>jE r k
omit [ar] in
@[simp] theorem Qz(o:Oper)(r:List Oper):jE (o::r) 0=o.dst:=by rw[jE]
omit [ar] in
@[simp] theorem QA(o:Oper)(r:List Oper)(k:Nat):jE (o::r) (k+1)=jE r k:=by rw[jE]
def gV(env:Env)(d:Option Tmp)(want:Bool):Option Bool:=
 match d with
 |none=>some false
 |some t=>qN (get env t) want
section
omit [ar]
@[simp] theorem QB(t:Tmp)(want:Bool):gV env (some t) want=qN (get env t) want:=rfl
theorem CH:∀(l:List Oper)(j:Nat),jE l j=(l[j]?).bind (·.dst)
 |[],j=>by simp[jE]
 |o::r,0=>rfl
 |o::r,j+1=>by simp only[jE,List.getElem?_cons_succ];exact CH r j
@[simp] theorem QD(l:List Oper)(j:Nat)(want:Bool):gOf l.toArray env j want=gV env (jE l j) want:=by
 unfold gOf bT gV;rw[List.getElem?_toArray,CH]
 cases (l[j]?).bind (·.dst)<;>rfl
end
@[simp ↓] theorem QE(x:Operand)(K:AV→aj→Nat→Prop):bn P env h n (.move x) K=K (ev env x) h n:=by simp[bn,bm,aOp]
@[simp ↓] theorem QG(x:Operand)(K:AV→aj→Nat→Prop):bn P env h n (.assign x) K=K (ev env x) h n:=by simp[bn,bm,aOp]
@[simp ↓] theorem QH(x:Operand)(K:AV→List (List AV)→Prop):bm P env h n (.move x) K=K (ev env x) []:=by simp[bm,aOp]
@[simp ↓] theorem QI(x:Operand)(K:AV→List (List AV)→Prop):bm P env h n (.assign x) K=K (ev env x) []:=by simp[bm,aOp]
end
def zy(h:aj)(ty:Option (Nat×Bool))(ad x:AV):Option (Prop×aj):=
 match ty,ad with
 |some (sz,_),.ptr id ver off=>
  match aV h id with
  |some cells=>some ((cells.length=ver∧x.ok=true∧x.cells.length=sz∧off+sz≤cells.length∧bV x.cells=true),br h id (setAt cells off x.cells))
  |none=>none
 |_,_=>none
def zA(P:Program)(h:aj)(n:Nat)(t tx:TypeId)(s x:AV):Option (Prop×AV×aj×Nat):=
 match slE P t,slE P tx with
 |some (e,sz),some _=>
  match byE P e,cL P e,fq h sz x with
  |some by_,some z,some (k2,news,c)=>
   match s with
   |.msl id ver z' off k=>
    match aV h id with
    |some cells=>some ((c∧off=0∧cells.length=ver∧z'=sz∧z.length=sz∧0<sz∧k*sz≤ver∧k+k2≤1000000000∧by_≤100000∧bV news=true),
      .msl id (ft cells (k*sz) news).length sz 0 (k+k2),br h id (ft cells (k*sz) news),n)
    |none=>none
   |.w own true (.sl k cells)=>
    bif own&&decide (k=0)&&cells.isEmpty then some ((c∧0<k2∧z.length=sz∧0<sz∧k2≤1000000000∧by_≤100000),.msl n news.length sz 0 k2,(n,news)::h,n+1)
    else match pvs news with
     |some q=>some ((c∧cells.length=k*sz∧z.length=sz∧0<sz∧k+k2≤1000000000∧by_≤100000),.w (dE q&&(own || cells.isEmpty)) false (.sl (k+k2) (cells++q)),h,n)
     |none=>none
   |_=>none
  |_,_,_=>none
 |_,_=>none
def zB(P:Program)(h:aj)(n:Nat)(args:List AV)(tys:List TypeId):Option (Prop×AV×aj×Nat):=
 match args,tys with
 |[s,x],[t,tx]=>zA P h n t tx s x
 |_,_=>none
def sM(r:Option (Prop×aj))(n:Nat)(K:AV→aj→Nat→Prop)(_:Mark K):Prop:=
 match r with
 |some (c,h')=>c∧K (.tup []) h' n
 |none=>False
def pM(r:Option (Prop×AV×aj×Nat))(K:AV→aj→Nat→Prop)(_:Mark K):Prop:=
 match r with
 |some (c,v,h',n')=>c∧K v h' n'
 |none=>False
section
omit [ar]
@[congr] theorem QJ{r r':Option (Prop×aj)}{n n':Nat}{K:AV→aj→Nat→Prop}{mk:Mark K}(h:r=r')(h2:n=n'):sM r n K mk=sM r' n' K mk:=by rw[h,h2]
@[congr] theorem QK{r r':Option (Prop×AV×aj×Nat)}{K:AV→aj→Nat→Prop}{mk:Mark K}(h:r=r'):pM r K mk=pM r' K mk:=by rw[h]
@[simp] theorem QL(c:Prop)(h':aj)(n:Nat)(K:AV→aj→Nat→Prop)(mk:Mark K):sM (some (c,h')) n K mk=(c∧K (.tup []) h' n):=rfl
@[simp] theorem QM(c:Prop)(v:AV)(h':aj)(n':Nat)(K:AV→aj→Nat→Prop)(mk:Mark K):pM (some (c,v,h',n')) K mk=(c∧K v h' n'):=rfl
end
@[simp ↓] theorem QN{P:Program}{env:Env}{h:aj}{n:Nat}(t:TypeId)(ad x:Operand)(K:AV→aj→Nat→Prop):bn P env h n (.store t ad x) K=sM (zy h (tyL P t) (ev env ad) (ev env x)) n K .it:=by
 show j6 P env h n t ad x K=_;unfold j6 zy
 cases tyL P t with
 |none=>cases ev env ad<;>rfl
 |some y=>
  obtain⟨sz,g⟩:=y
  cases ev env ad with
  |ptr id ver off=>dsimp only;cases aV h id<;>rfl
  |_=>rfl
@[simp ↓] theorem QO{P:Program}{env:Env}{h:aj}{n:Nat}(args:Array Operand)(tys:Array TypeId)(K:AV→aj→Nat→Prop):bn P env h n (.call ⟨.builtin .append,args,tys⟩) K=pM (zB P h n (args.toList.map (ev env)) tys.toList) K .it:=by
 show j5 P env h n args.toList tys.toList K=_;generalize args.toList=la;generalize tys.toList=lt;unfold j5 zB
 match la,lt with
 |[s,x],[t,tx]=>
  simp only[List.map];unfold zA
  cases slE P t with
  |none=>rfl
  |some y=>
   obtain⟨e,sz⟩:=y
   cases slE P tx with
   |none=>rfl
   |some y2=>
    dsimp only
    cases byE P e with
    |none=>rfl
    |some by_=>
     cases cL P e with
     |none=>rfl
     |some z=>
      cases fq h sz (ev env x) with
      |none=>rfl
      |some y3=>
       obtain⟨k2,news,c⟩:=y3;dsimp only
       cases ev env s with
       |msl id ver z' off k=>dsimp only;cases aV h id<;>rfl
       |w own f p=>
        cases f with
        |false=>rfl
        |true=>
         cases p with
         |sl k cells=>
          dsimp only
          cases (own&&decide (k=0)&&cells.isEmpty) with
          |true=>rfl
          |false=>simp only[cond_false];cases pvs news<;>rfl
         |_=>rfl
       |_=>rfl
 |[],_=>simp[pM]
 |[_],_=>simp[pM]
 |_::_::_::_,_=>simp[pM]
 |[_,_],[]=>simp[pM]
 |[_,_],[_]=>simp[pM]
 |[_,_],_::_::_::_=>simp[pM]
@[simp ↓] theorem QP{P:Program}{env:Env}{h:aj}{n:Nat}(args:Array Operand)(tys:Array TypeId)(K:AV→aj→Nat→Prop):bn P env h n (.call ⟨.builtin .copy,args,tys⟩) K=pM ((oH P h (args.toList.map (ev env)) tys.toList).map fun y=>(y.1,y.2.1,y.2.2,n)) K .it:=by
 show j7 P env h n args.toList tys.toList K=_;unfold j7
 cases oH P h (args.toList.map (ev env)) tys.toList with
 |none=>rfl
 |some y=>rfl
attribute [simp] oH lX shr
def eK(h:aj)(n:Nat)(K:AV→aj→Nat→Prop):AV→List (List AV)→Prop:=fun v E=>K v (ba h n E) (n+E.length)
omit [ar] in
@[simp ↓] theorem QQ(h:aj)(n:Nat)(K:AV→aj→Nat→Prop)(v:AV):eK h n K v []=K v h n:=by unfold eK;rfl
omit [ar] in
@[simp ↓] theorem QR(h:aj)(n:Nat)(K:AV→aj→Nat→Prop)(v:AV)(c:List AV):eK h n K v [c]=K v ((n,c)::h) (n+1):=by unfold eK;rfl
section
variable{P:Program}{env:Env}{h:aj}{n:Nat}(K:AV→aj→Nat→Prop)(Kq:AV→List (List AV)→Prop)
def gdV(b:Bool)(v:AV):AV:=bif b then v else .tup []
omit [ar] in
@[simp] theorem J3(v:AV):gdV true v=v:=rfl
omit [ar] in
@[simp] theorem J4(v:AV):gdV false v=.tup []:=rfl
def pkW(c x y:AV)(K:AV→List (List AV)→Prop)(_:Mark K):Prop:=
 match c with
 |.w _ _ (.bool t)=>
  match x,y with
  |.w _ _ (.bool a),.w _ _ (.bool b)=>K (.w false false (.bool (bif t then a else b))) []
  |x,y=>K (bif t then x else y) []
 |_=>False
omit [ar] in
@[congr] theorem QS{c c' x x' y y':AV}{K:AV→List (List AV)→Prop}{mk:Mark K}(h1:c=c')(h2:x=x')(h3:y=y'):pkW c x y K mk=pkW c' x' y' K mk:=by rw[h1,h2,h3]
section
variable{K:AV→List (List AV)→Prop}{mk:Mark K}
section
omit [ar]
@[simp] theorem QT(o f t o1 f1 a o2 f2 b:Bool):pkW (.w o f (.bool t)) (.w o1 f1 (.bool a)) (.w o2 f2 (.bool b)) K mk=K (.w false false (.bool (bif t then a else b))) []:=rfl
@[simp] theorem QU(o f c g a o2 f2 b:Bool)(hg:(!c)=g):pkW (.w o f (.bool c)) (.w false false (.bool a)) (gdV g (.w o2 f2 (.bool b))) K mk=K (.w false false (.bool (bif c then a else b))) []:=by
 subst hg;cases c<;>rfl
@[simp] theorem QV(o f t:Bool)(l:List AV)(y:AV):pkW (.w o f (.bool t)) (.tup l) y K mk=K (bif t then .tup l else y) []:=rfl
@[simp] theorem QW(o f t:Bool)(l:List AV)(x:AV):pkW (.w o f (.bool t)) x (.tup l) K mk=K (bif t then x else .tup l) []:=by
 unfold pkW;simp only
end
@[simp ↓] theorem J5(c x y:Operand):bm P env h n (.pick c x y) K=pkW (ev env c) (ev env x) (ev env y) K .it:=by
 simp only[bm,aOp,pkW];generalize ev env c=cv;generalize ev env x=xv;generalize ev env y=yv
 cases cv with
 |w o f v=>
  cases v with
  |bool t=>
   simp only;split
   ·rename_i e1;split at e1<;>(injection e1 with e1;injection e1 with e1 e;injection e with e2 e3;subst e1;subst e2;subst e3;simp)
   ·rename_i e1;split at e1<;>cases e1
  |_=>rfl
 |_=>rfl
@[simp ↓] theorem QX(c x y:Operand)(K:AV→aj→Nat→Prop):bn P env h n (.pick c x y) K=pkW (ev env c) (ev env x) (ev env y) (eK h n K) .it:=by
 rw[←J5];rfl
end
@[simp ↓] theorem QY(t:TypeId):bn P env h n (.alloc t) K=aW (aOp P h n (ev env) (.alloc t)) (eK h n K) .it:=rfl
@[simp ↓] theorem QZ(t:TypeId):bm P env h n (.alloc t) Kq=aW (aOp P h n (ev env) (.alloc t)) Kq .it:=rfl
@[simp ↓] theorem XV(t:TypeId)(x:Operand):bn P env h n (.box t x) K=aW (aOp P h n (ev env) (.box t x)) (eK h n K) .it:=rfl
@[simp ↓] theorem XW(t:TypeId)(x:Operand):bm P env h n (.box t x) Kq=aW (aOp P h n (ev env) (.box t x)) Kq .it:=rfl
@[simp ↓] theorem Q0(t:TypeId)(ps:Array (Nat×Operand)):bn P env h n (.build t ps) K=aW (aOp P h n (ev env) (.build t ps)) (eK h n K) .it:=rfl
@[simp ↓] theorem Q3(t:TypeId)(ps:Array (Nat×Operand)):bm P env h n (.build t ps) Kq=aW (aOp P h n (ev env) (.build t ps)) Kq .it:=rfl
@[simp ↓] theorem Q4(t:TypeId)(l:Nat)(ps:Array (Nat×Operand)):bn P env h n (.buildSlice t l ps) K=aW (aOp P h n (ev env) (.buildSlice t l ps)) (eK h n K) .it:=rfl
@[simp ↓] theorem Q5(t:TypeId)(l:Nat)(ps:Array (Nat×Operand)):bm P env h n (.buildSlice t l ps) Kq=aW (aOp P h n (ev env) (.buildSlice t l ps)) Kq .it:=rfl
@[simp ↓] theorem Q6(t:TypeId)(x:Operand):bn P env h n (.load t x) K=aW (aOp P h n (ev env) (.load t x)) (eK h n K) .it:=rfl
@[simp ↓] theorem Q7(t:TypeId)(x:Operand):bm P env h n (.load t x) Kq=aW (aOp P h n (ev env) (.load t x)) Kq .it:=rfl
@[simp ↓] theorem Q8(x:Operand):bn P env h n (.nilCheck x) K=aW (aOp P h n (ev env) (.nilCheck x)) (eK h n K) .it:=rfl
@[simp ↓] theorem Q9(x:Operand):bm P env h n (.nilCheck x) Kq=aW (aOp P h n (ev env) (.nilCheck x)) Kq .it:=rfl
@[simp ↓] theorem Ra(op:BinOp)(t:TypeId)(x y:Operand)(yt:TypeId):bn P env h n (.binOp op t x y yt) K=aW (aOp P h n (ev env) (.binOp op t x y yt)) (eK h n K) .it:=rfl
@[simp ↓] theorem Rb(op:BinOp)(t:TypeId)(x y:Operand)(yt:TypeId):bm P env h n (.binOp op t x y yt) Kq=aW (aOp P h n (ev env) (.binOp op t x y yt)) Kq .it:=rfl
@[simp ↓] theorem Rc(op:UnOp)(t:TypeId)(x:Operand):bn P env h n (.unOp op t x) K=aW (aOp P h n (ev env) (.unOp op t x)) (eK h n K) .it:=rfl
@[simp ↓] theorem Re(op:UnOp)(t:TypeId)(x:Operand):bm P env h n (.unOp op t x) Kq=aW (aOp P h n (ev env) (.unOp op t x)) Kq .it:=rfl
def cvW(P:Program)(env:Env)(h:aj)(n:Nat)(src dst:TypeId)(x:Operand)(v:AV)(K:AV→aj→Nat→Prop)(_:Mark K):Prop:=
 match v with
 |.w _ _ (.str s)=>oJ P src dst=true∧K (.w true false (.sl s.size (iP s))) h n
 |_=>bm P env h n (.convert src dst x) fun v E=>K v (ba h n E) (n+E.length)
@[congr] theorem Rf{P:Program}{env:Env}{h:aj}{n:Nat}{src dst:TypeId}{x:Operand}{v v':AV}{K:AV→aj→Nat→Prop}{mk:Mark K}(e:v=v'):cvW P env h n src dst x v K mk=cvW P env h n src dst x v' K mk:=by rw[e]
@[simp] theorem Rg(src dst:TypeId)(x:Operand)(o f:Bool)(s:ByteArray)(K:AV→aj→Nat→Prop)(mk:Mark K):cvW P env h n src dst x (.w o f (.str s)) K mk=(oJ P src dst=true∧K (.w true false (.sl s.size (iP s))) h n):=rfl
@[simp] theorem Rh(src dst:TypeId)(x:Operand)(o f:Bool)(k:IntKind)(a:Int)(K:AV→aj→Nat→Prop)(mk:Mark K):cvW P env h n src dst x (.w o f (.int k a)) K mk=aW (aOp P h n (ev env) (.convert src dst x)) (eK h n K) .it:=rfl
omit [ar] in
@[simp] theorem Ri(s:ByteArray):(iP s).length=s.size:=by simp[iP]
@[simp ↓] theorem Rj(s d:TypeId)(x:Operand):bn P env h n (.convert s d x) K=cvW P env h n s d x (ev env x) K .it:=rfl
@[simp ↓] theorem Rk(s d:TypeId)(x:Operand):bm P env h n (.convert s d x) Kq=aW (aOp P h n (ev env) (.convert s d x)) Kq .it:=rfl
@[simp ↓] theorem Rl(t:TypeId)(x:Operand):bn P env h n (.makeInterface t x) K=aW (aOp P h n (ev env) (.makeInterface t x)) (eK h n K) .it:=rfl
@[simp ↓] theorem Rm(t:TypeId)(x:Operand):bm P env h n (.makeInterface t x) Kq=aW (aOp P h n (ev env) (.makeInterface t x)) Kq .it:=rfl
@[simp ↓] theorem Rn(f:Fn)(a b:Array Operand):bn P env h n (.makeFunc f a b) K=aW (aOp P h n (ev env) (.makeFunc f a b)) (eK h n K) .it:=rfl
@[simp ↓] theorem Ro(f:Fn)(a b:Array Operand):bm P env h n (.makeFunc f a b) Kq=aW (aOp P h n (ev env) (.makeFunc f a b)) Kq .it:=rfl
@[simp ↓] theorem Rp(t:TypeId)(x y:Operand):bn P env h n (.makeSlice t x y) K=aW (aOp P h n (ev env) (.makeSlice t x y)) (eK h n K) .it:=rfl
@[simp ↓] theorem Rq(t:TypeId)(x y:Operand):bm P env h n (.makeSlice t x y) Kq=aW (aOp P h n (ev env) (.makeSlice t x y)) Kq .it:=rfl
@[simp ↓] theorem Rr(t:TypeId)(x:Operand)(l u m:Option Operand):bn P env h n (.slice t x l u m) K=aW (aOp P h n (ev env) (.slice t x l u m)) (eK h n K) .it:=rfl
@[simp ↓] theorem Rs(t:TypeId)(x:Operand)(l u m:Option Operand):bm P env h n (.slice t x l u m) Kq=aW (aOp P h n (ev env) (.slice t x l u m)) Kq .it:=rfl
@[simp ↓] theorem Ru(t:TypeId)(x:Operand)(f:Nat):bn P env h n (.fieldAddr t x f) K=aW (aOp P h n (ev env) (.fieldAddr t x f)) (eK h n K) .it:=rfl
@[simp ↓] theorem Rv(t:TypeId)(x:Operand)(f:Nat):bm P env h n (.fieldAddr t x f) Kq=aW (aOp P h n (ev env) (.fieldAddr t x f)) Kq .it:=rfl
@[simp ↓] theorem Rw(t:TypeId)(x:Operand)(f:Nat):bn P env h n (.field t x f) K=aW (aOp P h n (ev env) (.field t x f)) (eK h n K) .it:=rfl
@[simp ↓] theorem Rx(t:TypeId)(x:Operand)(f:Nat):bm P env h n (.field t x f) Kq=aW (aOp P h n (ev env) (.field t x f)) Kq .it:=rfl
@[simp ↓] theorem Ry(t:TypeId)(x i:Operand):bn P env h n (.indexAddr t x i) K=aW (aOp P h n (ev env) (.indexAddr t x i)) (eK h n K) .it:=rfl
@[simp ↓] theorem Rz(t:TypeId)(x i:Operand):bm P env h n (.indexAddr t x i) Kq=aW (aOp P h n (ev env) (.indexAddr t x i)) Kq .it:=rfl
@[simp ↓] theorem RA(t:TypeId)(x i:Operand):bn P env h n (.index t x i) K=aW (aOp P h n (ev env) (.index t x i)) (eK h n K) .it:=rfl
@[simp ↓] theorem RB(t:TypeId)(x i:Operand):bm P env h n (.index t x i) Kq=aW (aOp P h n (ev env) (.index t x i)) Kq .it:=rfl
@[simp ↓] theorem RD(x:Operand)(i:Nat):bn P env h n (.extract x i) K=aW (aOp P h n (ev env) (.extract x i)) (eK h n K) .it:=rfl
@[simp ↓] theorem RF(x:Operand)(i:Nat):bm P env h n (.extract x i) Kq=aW (aOp P h n (ev env) (.extract x i)) Kq .it:=rfl
@[simp ↓] theorem XX(a:Array Operand)(t:Array TypeId):bn P env h n (.call ⟨.builtin .len,a,t⟩) K=aW (aOp P h n (ev env) (.call ⟨.builtin .len,a,t⟩)) (eK h n K) .it:=rfl
@[simp ↓] theorem XY(a:Array Operand)(t:Array TypeId):bm P env h n (.call ⟨.builtin .len,a,t⟩) Kq=aW (aOp P h n (ev env) (.call ⟨.builtin .len,a,t⟩)) Kq .it:=rfl
@[simp ↓] theorem XZ(a:Array Operand)(t:Array TypeId):bn P env h n (.call ⟨.builtin .max,a,t⟩) K=aW (aOp P h n (ev env) (.call ⟨.builtin .max,a,t⟩)) (eK h n K) .it:=rfl
@[simp ↓] theorem X0(a:Array Operand)(t:Array TypeId):bm P env h n (.call ⟨.builtin .max,a,t⟩) Kq=aW (aOp P h n (ev env) (.call ⟨.builtin .max,a,t⟩)) Kq .it:=rfl
@[simp ↓] theorem X1(a:Array Operand)(t:Array TypeId):bn P env h n (.call ⟨.builtin .min,a,t⟩) K=aW (aOp P h n (ev env) (.call ⟨.builtin .min,a,t⟩)) (eK h n K) .it:=rfl
@[simp ↓] theorem X2(a:Array Operand)(t:Array TypeId):bm P env h n (.call ⟨.builtin .min,a,t⟩) Kq=aW (aOp P h n (ev env) (.call ⟨.builtin .min,a,t⟩)) Kq .it:=rfl
@[simp ↓] theorem RG(a:Array Operand)(t:Array TypeId):bm P env h n (.call ⟨.builtin .append,a,t⟩) Kq=aW (aOp P h n (ev env) (.call ⟨.builtin .append,a,t⟩)) Kq .it:=rfl
def cW(P:Program)(h:aj)(n:Nat)(f:Option (FuncId×List AV))(args:List AV)(K:AV→List (List AV)→Prop)(_:Mark K):Prop:=
 match f with
 |some (g,aE)=>oG P h n g (args++aE) K
 |none=>False
@[congr] theorem RH{P:Program}{h h':aj}{n:Nat}{f f':Option (FuncId×List AV)}{args args':List AV}{K:AV→List (List AV)→Prop}{mk:Mark K}(h0:h=h')(h1:f=f')(h2:args=args'):cW P h n f args K mk=cW P h' n f' args' K mk:=by rw[h0,h1,h2]
@[simp ↓] theorem RJ(f:Operand)(a:Array Operand)(t:Array TypeId):bn P env h n (.call ⟨.value f,a,t⟩) K=cW P h n (du (ev env f)) (a.toList.map (ev env)) (eK h n K) .it:=by
 simp only[bn,bm,cW];rfl
@[simp ↓] theorem RK(f:Operand)(a:Array Operand)(t:Array TypeId):bm P env h n (.call ⟨.value f,a,t⟩) Kq=cW P h n (du (ev env f)) (a.toList.map (ev env)) Kq .it:=by
 simp only[bm,cW];rfl
def fW(P:Program)(n:Nat)(g:FuncId)(a:Option (List PV))(pure:Bool)(K:AV→List (List AV)→Prop)(_:Mark K):Prop:=
 match a with
 |some pvs=>CW P g pvs (fun res fr=>(fr=true∨pure=true)∧K (.w (lW fr res) false res) []) (fun E v=>K (v.sh n) (E.map (AV.sh.shL n))) .it
 |none=>False
@[congr] theorem RO{P:Program}{n:Nat}{g:FuncId}{a a':Option (List PV)}{p p':Bool}{K:AV→List (List AV)→Prop}{mk:Mark K}(h0:a=a')(h1:p=p'):fW P n g a p K mk=fW P n g a' p' K mk:=by rw[h0,h1]
@[simp] theorem RP(g:FuncId)(aE args:List AV)(mk:Mark Kq):cW P h n (some (g,aE)) args Kq mk=fW P n g (il h (args++aE)) (js (args++aE)) Kq .it:=rfl
@[simp] theorem RQ(g:FuncId)(pvs:List PV)(p:Bool)(mk:Mark Kq):fW P n g (some pvs) p Kq mk=CW P g pvs (fun res fr=>(fr=true∨p=true)∧Kq (.w (lW fr res) false res) []) (fun E v=>Kq (v.sh n) (E.map (AV.sh.shL n))) .it:=rfl
end
theorem cw{P:Program}{g:FuncId}{args:List PV}{K:PV→Bool→Prop}{K2:List (List AV)→AV→Prop}{res:PV}{fr:Bool}{mk:Mark (K,K2)}(h:aA P g args res fr)(hk:K res fr):CW P g args K K2 mk:=.inl ⟨res,fr,h,hk⟩
theorem cwM{P:Program}{g:FuncId}{args:List PV}{K:PV→Bool→Prop}{K2:List (List AV)→AV→Prop}{E:List (List AV)}{v:AV}{mk:Mark (K,K2)}(h:j4 P g args E v)(hk:K2 E v):CW P g args K K2 mk:=.inr ⟨E,v,h,hk⟩
section
omit [ar]
@[simp] theorem Pm(n:Nat)(o f:Bool)(p:PV):AV.sh n (.w o f p)=.w o f p:=rfl
@[simp] theorem J6(n id v off:Nat):AV.sh n (.ptr id v off)=.ptr (id+n) v off:=rfl
@[simp] theorem J7(n id v sz off k:Nat):AV.sh n (.msl id v sz off k)=.msl (id+n) v sz off k:=rfl
@[simp] theorem J8(n:Nat)(cs:List AV):AV.sh n (.agg cs)=.agg (AV.sh.shL n cs):=rfl
@[simp] theorem J9(n:Nat)(cs:List AV):AV.sh n (.tup cs)=.tup (AV.sh.shL n cs):=rfl
@[simp] theorem RS(n:Nat):AV.sh.shL n []=[]:=rfl
@[simp] theorem RU(n:Nat)(x:AV)(r:List AV):AV.sh.shL n (x::r)=x.sh n::AV.sh.shL n r:=rfl
end
@[simp ↓] theorem RV(P:Program)(b:Code)(K:Exit→St→Prop)(s:St):oK fk P b K .normal s=aY fk P b s K:=rfl
@[simp ↓] theorem RX(P:Program)(b:Code)(K:Exit→St→Prop)(s:St):oK fk P b K .ret s=K .ret s:=rfl
@[simp ↓] theorem RY(P:Program)(b:Code)(K:Exit→St→Prop)(id:Nat)(s:St):oK fk P b K (.exit id) s=K (.exit id) s:=rfl
section
omit [ar]
@[simp ↓] theorem RZ(i:Nat)(K:Exit→St→Prop)(s:St):fw i K .normal s=K .normal s:=rfl
@[simp ↓] theorem R3(i:Nat)(K:Exit→St→Prop)(s:St):fw i K .ret s=K .ret s:=rfl
@[simp ↓] theorem R4(i id:Nat)(K:Exit→St→Prop)(s:St):fw i K (.exit id) s=if id=i then K .normal s else K (.exit id) s:=rfl
@[simp ↓] theorem R5(P:Program)(rs:List ResultVar)(res:PV)(fr:Bool)(s:St):oZ P rs res fr .normal s=k8 P rs s res fr:=rfl
@[simp ↓] theorem R6(P:Program)(rs:List ResultVar)(res:PV)(fr:Bool)(s:St):oZ P rs res fr .ret s=k8 P rs s res fr:=rfl
end
theorem nx{fk:Fk}{α:Type}{J:α→Prop}{I:α→St}{μ:α→Nat}{x:α}{K:Exit→St→Prop}{s:St}(y:α)(h:J y)(hle:Lek fk s (I y))(hm:μ y<μ x:=by first|omega|(dsimp only;omega)|(simp;omega)):iq fk J I μ x K .normal s:=⟨y,h,hm,hle⟩
section
variable{α:Type}(J:α→Prop)(I:α→St)(μ:α→Nat)(x:α)(K:Exit→St→Prop)
theorem tD(y:α)(s:St)(h:J y)(hm:μ y<μ x)(hle:Lek fk s (I y)):iq fk J I μ x K .normal s:=⟨y,h,hm,hle⟩
@[simp ↓] theorem R7(s:St):iq fk J I μ x K .ret s=K .ret s:=rfl
@[simp ↓] theorem R8(id:Nat)(s:St):iq fk J I μ x K (.exit id) s=K (.exit id) s:=rfl
end
section
variable{β:Type}(id:Nat)(F:β→Prop)(fin:β→St)(R:St→Prop)
@[simp ↓] theorem R9(s:St):yL fk id F fin R .ret s=R s:=rfl
@[congr] theorem Sa{id:Nat}{F:β→Prop}{fin:β→St}{R:St→Prop}{e e':Exit}{s s':St}(h:e=e')(h2:s=s'):yL fk id F fin R e s=yL fk id F fin R e' s':=by rw[h,h2]
end
@[congr] theorem Sb{P:Program}{b:Code}{K:Exit→St→Prop}{e e':Exit}{s s':St}(h:e=e')(h2:s=s'):oK fk P b K e s=oK fk P b K e' s':=by rw[h,h2]
omit [ar] in
@[congr] theorem Sc{i:Nat}{K:Exit→St→Prop}{e e':Exit}{s s':St}(h:e=e')(h2:s=s'):fw i K e s=fw i K e' s':=by rw[h,h2]
@[congr] theorem Sd{α:Type}{J:α→Prop}{I:α→St}{μ:α→Nat}{x:α}{K:Exit→St→Prop}{e e':Exit}{s s':St}(h:e=e')(h2:s=s'):iq fk J I μ x K e s=iq fk J I μ x K e' s':=by rw[h,h2]
omit [ar] in
@[simp] theorem Se(o f b:Bool)(X Y:Prop):kh (.w o f (.bool b)) X Y=((b=true→X)∧(b=false→Y)):=rfl
omit [ar] in
@[simp] theorem Sf(o f:Bool)(X Y:Prop):kh (.w o f .gj) X Y=(X∧Y):=rfl
def jF(v:AV)(X Y:Prop)(_:Mark (X,Y)):Prop:=kh v X Y
section
omit [ar]
@[congr] theorem Sg{v v':AV}{X Y:Prop}{mk:Mark (X,Y)}(h:v=v'):jF v X Y mk=jF v' X Y mk:=by rw[h]
@[simp] theorem Sj(o f:Bool)(X Y:Prop)(mk:Mark (X,Y)):jF (.w o f (.bool true)) X Y mk=X:=by simp[jF,kh]
@[simp] theorem Sk(o f:Bool)(X Y:Prop)(mk:Mark (X,Y)):jF (.w o f (.bool false)) X Y mk=Y:=by simp[jF,kh]
theorem lI{o f b:Bool}{X Y:Prop}{mk:Mark (X,Y)}(hx:b=true→X)(hy:b=false→Y):jF (.w o f (.bool b)) X Y mk:=⟨hx,hy⟩
theorem dO{o f:Bool}{p:Prop}[Decidable p]{X Y:Prop}{mk:Mark (X,Y)}(hx:p→X)(hy:¬p→Y):jF (.w o f (.bool (decide p))) X Y mk:=⟨fun h=>hx (by simpa using h),fun h=>hy (by simpa using h)⟩
theorem iJ{o f:Bool}{p:Prop}[Decidable p]{X Y:Prop}{mk:Mark (X,Y)}(hx:¬p→X)(hy:p→Y):jF (.w o f (.bool (!decide p))) X Y mk:=⟨fun h=>hx (by simpa using h),fun h=>hy (by simpa using h)⟩
end
theorem ak{P:Program}{K:Exit→St→Prop}{st:St}{c:Operand}{x y:Code}(h:jF (ev st.env c) (aY fk P x st K) (aY fk P y st K) .it):aY fk P (.cond c x y) st K:=G5 h
omit [ar] in
@[congr] theorem Sm{v v':AV}{X Y:Prop}(h:v=v'):kh v X Y=kh v' X Y:=by rw[h]
attribute [simp] yD yC yG jZ aOp bin jr AV.ok AV.one AV.isAgg AV.cells setAt lR eqS eqL nj lov hiv frz il uh js isW oF du fq ft bV dE lW pvs zy zA zB fS eQ dp oneOf k8 db o6 o7 nI AV.lt AV.lt.ltL qA
section
omit [ar]
@[simp] theorem Sn:flat .undef=true:=rfl
@[simp] theorem So:flat .gj=true:=rfl
@[simp] theorem Sq(b:Bool):flat (.bool b)=true:=rfl
@[simp] theorem Sr(k:IntKind)(n:Int):flat (.int k n)=true:=rfl
@[simp] theorem Ss(s:ByteArray):flat (.str s)=true:=rfl
@[simp] theorem Su:flat .dP=true:=rfl
@[simp] theorem Sv(n:Nat)(c:List PV):flat (.sl n c)=false:=rfl
@[simp] theorem Sw(n:Nat)(c:List PV):flat (.ip c n)=false:=rfl
@[simp] theorem Sx(c:List PV):flat (.agg c)=false:=rfl
@[simp] theorem Sy(f:FuncId)(c:List PV):flat (.fn f c)=false:=rfl
@[simp] theorem Sz(z:List AV):fp 0 z=[]:=rfl
@[simp] theorem SB(n:Nat)(z:AV):fp n [z]=List.replicate n z:=by
 unfold fp
 induction n with
 |zero=>rfl
 |succ n ih=>rw[List.replicate_succ,List.flatten_cons,ih];rfl
@[simp] theorem SC(x:AV)(l:List AV):iN (x::l) 0=x:=rfl
@[simp] theorem SD(x:AV)(l:List AV)(k:Nat):iN (x::l) (k+1)=iN l k:=rfl
@[simp] theorem SE(x:PV)(l:List PV):cD (x::l) 0=x:=rfl
@[simp] theorem SF(x:PV)(l:List PV)(k:Nat):cD (x::l) (k+1)=cD l k:=rfl
@[simp] theorem xX{α:Type}[Inhabited α](x:α)(l:List α):nth (x::l) 0=x:=rfl
@[simp] theorem xY{α:Type}[Inhabited α](x:α)(l:List α)(k:Nat):nth (x::l) (k+1)=nth l k:=rfl
theorem CI(f:PV→AV)(l:List PV)(k:Nat)(h:k<l.length):iN (l.map f) k=f (cD l k):=by
 simp[iN,cD,List.getD_eq_getElem?_getD,List.getElem?_map,List.getElem?_eq_getElem h]
theorem CJ(s:ByteArray):s=ByteArray.empty↔s.size=0:=by
 constructor
 ·rintro rfl;rfl
 ·intro h;obtain⟨⟨l⟩⟩:=s;have:l=[]:=List.eq_nil_of_length_eq_zero h;subst this;rfl
@[simp] theorem SG(s:ByteArray)(k:Nat)(h:k<s.size):cD (iP s) k=.int .u8 (qz s k):=by
 have:k<s.data.toList.length:=by simpa using h
 simp[cD,iP,qz,List.getD_eq_getElem?_getD,List.getElem?_map,List.getElem?_eq_getElem this]
theorem aF{n:Int}(h1:-9000000000000000000≤n)(h2:n≤9000000000000000000):inI .i64 n:=by
 simp only[inI,IntKind.min,IntKind.max,IntKind.signed,IntKind.bits]
 constructor<;>simp<;>omega
end
end Go.Fi
namespace Go.Fi
open Go
theorem pY{α:Type}(f:α→List PV)(s:Nat)(hf:∀x,(f x).length=s):∀l:List α,(l.flatMap f).length=l.length*s
 |[]=>by simp
 |x::l=>by rw[List.flatMap_cons,List.length_append,hf,pY f s hf l,List.length_cons,Nat.add_mul];omega
theorem tF{α:Type}[Inhabited α](f:α→List PV)(s:Nat)(hf:∀x,(f x).length=s):∀(l:List α)(k:Nat),k<l.length→((l.flatMap f).drop (k*s)).take s=f (nth l k)
 |[],k,h=>by simp at h
 |x::l,0,h=>by
  simp only[List.flatMap_cons,Nat.zero_mul,List.drop_zero,xX];rw[List.take_append_of_le_length (by rw[hf];exact Nat.le_refl _),List.take_of_length_le (by rw[hf];exact Nat.le_refl _)]
 |x::l,k+1,h=>by
  simp only[List.flatMap_cons,xY]
  have e:(k+1)*s=s+k*s:=by rw[Nat.add_mul];omega
  have e2:(f x++l.flatMap f).drop s=l.flatMap f:=by
   rw[List.drop_append_of_le_length (by rw[hf];exact Nat.le_refl _),List.drop_of_length_le (by rw[hf];exact Nat.le_refl _),List.nil_append]
  rw[e,←List.drop_drop,e2];exact tF f s hf l k (by simpa using h)
theorem Ka(a b:List PV)(j:Nat)(h:j<a.length):cD (a++b) j=cD a j:=by
 simp[cD,List.getD_eq_getElem?_getD,List.getElem?_append_left h]
theorem Kb(a b:List PV)(j:Nat):cD (a++b) (a.length+j)=cD b j:=by
 unfold cD;rw[List.getD_eq_getElem?_getD,List.getElem?_append_right (by omega),List.getD_eq_getElem?_getD];congr 2;omega
theorem jj{α:Type}[Inhabited α](f:α→List PV)(s:Nat)(hf:∀x,(f x).length=s):∀(l:List α)(k j:Nat),k<l.length→j<s→cD (l.flatMap f) (k*s+j)=cD (f (nth l k)) j
 |[],k,j,h,_=>by simp at h
 |x::l,0,j,h,hj=>by
  simp only[List.flatMap_cons,Nat.zero_mul,Nat.zero_add,xX];exact Ka _ _ _ (by rw[hf];exact hj)
 |x::l,k+1,j,h,hj=>by
  simp only[List.flatMap_cons,xY]
  have e:(k+1)*s+j=(f x).length+(k*s+j):=by rw[hf,Nat.add_mul];omega
  rw[e,Kb];exact jj f s hf l k j (by simpa using h) hj
theorem pZ{α:Type}[Inhabited α](f:α→PV)(l:List α)(k:Nat)(h:k<l.length):cD (l.map f) k=f (nth l k):=by
 simp[cD,nth,List.getD_eq_getElem?_getD,List.getElem?_map,List.getElem?_eq_getElem h]
end Go.Fi
namespace Go.Fi
open Go Go.RowKit
variable[ar]
variable{fk:Fk}
section
variable{P:Program}{K K':Exit→St→Prop}{st st':St}
theorem aD{id:Nat}{x y:Code}(h:aY fk P (.seq x y) st (fw id K)):aY fk P (.block id (.seq x y)) st K:=dV h
theorem iK{id i:Nat}{ops:Array Oper}{b:Bool}(h:aY fk P (.region i ops b) st (fw id K)):aY fk P (.block id (.region i ops b)) st K:=dV h
theorem CL{c:Code}(h:aY fk P c st K)(hk:∀e s,K e s→∃s',Lek fk s s'∧K' e s'):aY fk P c st K':=
 fun B w0 a w m hs=>cJ (h B w0 a w m hs) (fun e a' w' ⟨st',m',h1,h2⟩=>by
  obtain⟨s',hle,hk'⟩:=hk e st' h1;obtain⟨m'',hs''⟩:=hle B w0 a' w' m' h2
  exact⟨s',m'',hk',hs''⟩)
def nJ(fk:Fk){β:Type}(F:β→Prop)(fin:β→St)(s:St):Prop:=∃y,F y∧Lek fk s (fin y)
theorem aT{β:Type}{F:β→Prop}{fin:β→St}{s:St}(y:β)(h:F y)(hle:Lek fk s (fin y)):nJ fk F fin s:=⟨y,h,hle⟩
@[congr] theorem Ut{β:Type}{F:β→Prop}{fin:β→St}{s s':St}(h:s=s'):nJ fk F fin s=nJ fk F fin s':=by rw[h]
def k9(fk:Fk){β:Type}(id:Nat)(F:β→Prop)(fin:β→St)(K:Exit→St→Prop):Exit→St→Prop
 |.exit i,s=>if i=id then nJ fk F fin s else K (.exit i) s
 |.normal,_=>False
 |e,s=>K e s
@[simp] theorem Uu{β:Type}(id i:Nat)(F:β→Prop)(fin:β→St)(s:St):k9 fk id F fin K (.exit i) s=if i=id then nJ fk F fin s else K (.exit i) s:=rfl
@[simp] theorem Uv{β:Type}(id:Nat)(F:β→Prop)(fin:β→St)(s:St):k9 fk id F fin K .ret s=K .ret s:=rfl
@[congr] theorem Uw{β:Type}{id:Nat}{F:β→Prop}{fin:β→St}{e e':Exit}{s s':St}(h:e=e')(h2:s=s'):k9 fk id F fin K e s=k9 fk id F fin K e' s':=by rw[h,h2]
def dN(env:Env):List Nat→Env
 |[]=>[]
 |k::ks=>(k,get env k)::dN env ks
omit [ar] in
@[simp] theorem Ux(env:Env):dN env []=[]:=rfl
omit [ar] in
@[simp] theorem Uy(env:Env)(k:Nat)(ks:List Nat):dN env (k::ks)=(k,get env k)::dN env ks:=rfl
theorem tG{c:Code}{id:Nat}{env:Env}{h:aj}{n nt:Nat}{α β:Type}(J:α→Prop)(ks:List Nat)(mods:α→Env)(hf:α→aj)(μ:α→Nat)(F:β→Prop)(fks:List Nat)(fmods:β→Env)(ff:β→aj)(x0:α)(hJ:J x0)(h0:o7 env n (mods x0++dN env ks))(h1:nI h n (hf x0))(round:∀x,J x→aY fk P c ⟨mods x++dN env ks,hf x,n,nt⟩ (iq fk J (fun x=>⟨mods x++dN env ks,hf x,n,nt⟩) μ x (k9 fk id F (fun y=>⟨fmods y++dN env fks,ff y,n,nt⟩) K)))(after:∀y,F y→K .normal ⟨fmods y++dN env fks,ff y,n,nt⟩):aY fk P (.block id (.loop c)) ⟨env,h,n,nt⟩ K:=by
 refine G6 (fun hk=>dV (CL (vV J (fun x=>⟨mods x++dN env ks,hf x,n,nt⟩) μ x0 hJ (aB h0 h1 hk) round) (fun e s hk=>?_)))
 cases e<;>first
  |exact hk.elim
  |exact⟨s,Lek.refl s,hk⟩
  |(simp only[k9] at hk
    simp only[fw];split at hk
    ·rename_i hid;obtain⟨y,hy,hle⟩:=hk;exact⟨_,hle,by rw[if_pos hid];exact after y hy⟩
    ·rename_i hid
     exact⟨s,Lek.refl s,by rw[if_neg hid];exact hk⟩)
def qO(fk:Fk){β:Type}(F:β→Prop)(fin:β→St)(K:Exit→St→Prop):Exit→St→Prop
 |.normal,s=>nJ fk F fin s
 |e,s=>K e s
@[simp] theorem Uz{β:Type}(F:β→Prop)(fin:β→St)(s:St):qO fk F fin K .normal s=nJ fk F fin s:=rfl
@[simp] theorem UA{β:Type}(i:Nat)(F:β→Prop)(fin:β→St)(s:St):qO fk F fin K (.exit i) s=K (.exit i) s:=rfl
@[simp] theorem UB{β:Type}(F:β→Prop)(fin:β→St)(s:St):qO fk F fin K .ret s=K .ret s:=rfl
@[congr] theorem UC{β:Type}{F:β→Prop}{fin:β→St}{e e':Exit}{s s':St}(h:e=e')(h2:s=s'):qO fk F fin K e s=qO fk F fin K e' s':=by rw[h,h2]
end
omit [ar] in
@[simp] theorem Kc(h:aj)(o f:Bool):∀l:List PV,il h (l.map (.w o f))=some l
 |[]=>rfl
 |p::r=>by simp[il,frz,Kc h o f r]
omit [ar] in
@[simp] theorem Ke(o f:Bool):∀l:List PV,js (l.map (.w o f))=true
 |[]=>rfl
 |p::r=>by simp[js,uh,Ke o f r]
end Go.Fi
namespace Go.Fi
open Go Go.RowKit
open Go.Conc (G)
section
variable{P:Program}{b:Frame}{a:Act}{k:List Item}{cs:List Frame}{w:World}
theorem K5{c:Code}:stepG P true (G (b.atR a (.code (.scope c)::k)) cs) w=.go (G (b.atR a (.code c::.inScope c::k)) cs) w #[]:=by simp[G,stepG,stepG.exec,Frame.atR]
theorem K6{c:Code}:stepG P true (G (b.atR a (.inScope c::k)) cs) w=.go (G (b.atR a k) cs) w #[]:=by simp[G,stepG,stepG.exec,Frame.atR]
end
section
variable[EnvD]
variable{P:Program}{r:Option Nat}{Q:Exit→Act→World→Prop}{a:Act}{w:World}
theorem K8{c:Code}(h:c.wpT r P Q a w):(Code.scope c).wpT r P Q a w:=by
 intro b k cs hr hk;refine .quiet _ _ (fun _=>K5) bw ((h b (.inScope c::k) cs hr hk).bind ?_)
 rintro fr cs' w' ⟨rfl,e,a',hq,he⟩
 cases e with
 |normal=>subst he;exact .quiet _ _ (fun _=>K6) bw (.now ⟨rfl,.normal,a',hq,rfl⟩)
 |exit id=>
  obtain⟨k1,h1,rfl⟩:=he;exact .now ⟨rfl,.exit id,a',hq,k1,h1.trans (by simp[exitTo]),rfl⟩
 |ret=>obtain⟨k1,rfl⟩:=he;exact .now ⟨rfl,.ret,a',hq,k1,rfl⟩
 |_=>exact he.elim
end
variable[ar]
variable{fk:Fk}{P:Program}{K:Exit→St→Prop}{st:St}
theorem DJ{c:Code}(h:aY fk P c st K):aY fk P (.scope c) st K:=fun B w0 a w m hs=>K8 (h B w0 a w m hs)
theorem DK{l:Nat}(h:K .normal st):aY fk P (.label l) st K:=fun _ _ _ _ m hs=>FT ⟨st,m,h,hs⟩
end Go.Fi
