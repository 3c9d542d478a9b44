/- Lemmas. -/
import Derived.Test.YtmaaehaedfemaaaGreatPLc
set_option linter.unusedSimpArgs false
set_option linter.unusedVariables false
set_option linter.unusedSectionVars false
set_option maxHeartbeats 32000000
set_option maxRecDepth 100000
namespace Go.Fi
open Go Go.RowKit
variable[ak]
variable{fk:Fk}
@[congr] theorem Pw{P:Program}{c:Code}{st st':St}{K:Exit→St→Prop}(h:st=st'):aM fk P c st K=aM fk P c st' K:=by rw[h]
@[congr] theorem Px{P:Program}{ops:Array Oper}{nt:Nat}{os:List Oper}{e e':Env}{h h':ab}{n n':Nat}{K:Env→ab→Nat→Prop}(h1:e=e')(h2:h=h')(h3:n=n'):a7 P ops nt os e h n K=a7 P ops nt os e' h' n' K:=by rw[h1,h2,h3]
@[congr] theorem Py{P:Program}{ops:Array Oper}{nt:Nat}{os:List Oper}{e e':Env}{h h':ab}{n n':Nat}{K:Env→ab→Nat→Prop}(h1:e=e')(h2:h=h')(h3:n=n'):df P ops nt os e h n K=df P ops nt os e' h' n' K:=by rw[h1,h2,h3]
@[congr] theorem Pz{P:Program}{env env':Env}{h h':ab}{n n':Nat}{op:Op}{K:AV→ab→Nat→Prop}(h1:env=env')(h2:h=h')(h3:n=n'):aZ P env h n op K=aZ P env' h' n' op K:=by rw[h1,h2,h3]
@[congr] theorem PC{P:Program}{env env':Env}{h h':ab}{n n':Nat}{op:Op}{K:AV→List (List AV)→Prop}(h1:env=env')(h2:h=h')(h3:n=n'):aV P env h n op K=aV P env' h' n' op K:=by rw[h1,h2,h3]
@[congr] theorem PD{P:Program}{g:FuncId}{args args':List PV}{K:PV→Bool→Prop}{K2:List (List AV)→AV→Prop}{mk:Mark (K,K2)}(h:args=args'):CW P g args K K2 mk=CW P g args' K K2 mk:=by rw[h]
def aW(r:Option (Prop×AV×List (List AV)))(K:AV→List (List AV)→Prop)(_:Mark K):Prop:=
 match r with
 |some (c,v,E)=>c∧K v E
 |none=>False
section
omit [ak]
@[congr] theorem PE{r r':Option (Prop×AV×List (List AV))}{K:AV→List (List AV)→Prop}{mk:Mark K}(h:r=r'):aW r K mk=aW r' K mk:=by rw[h]
@[simp] theorem PF(c:Prop)(v:AV)(E:List (List AV))(K:AV→List (List AV)→Prop)(mk:Mark K):aW (some (c,v,E)) K mk=(c∧K v E):=rfl
@[simp] theorem PG(K:AV→List (List AV)→Prop)(mk:Mark K):aW none K mk=False:=rfl
end
section
variable{P:Program}{ops:Array Oper}{nt:Nat}{env:Env}{h:ab}{n:Nat}
@[simp ↓] theorem PH(K:Env→ab→Nat→Prop):a7 P ops nt [] env h n K=K env h n:=rfl
@[simp ↓] theorem PM(K:Env→ab→Nat→Prop):df P ops nt [] env h n K=K env h n:=rfl
section
omit [ak]
@[simp] theorem PN(d:Nat):dOk nt (some d)=(d<nt):=rfl
@[simp] theorem PO:dOk nt none=True:=rfl
@[simp] theorem PQ(d:Nat)(v:AV):put env (some d) v=(d,v)::env:=rfl
@[simp] theorem PR(v:AV):put env none v=env:=rfl
@[simp] theorem PS:aP h n []=h:=rfl
@[simp] theorem PT(c:List AV):aP h n [c]=(n,c)::h:=rfl
@[simp] theorem PU(t:Nat):get [] t=.w false false .undef:=rfl
@[simp] theorem PW(k t:Nat)(v:AV):get ((k,v)::env) t=if k=t then v else get env t:=rfl
@[simp] theorem PX(k t:Nat)(v:List AV):aI ((k,v)::h) t=if k=t then some v else aI h t:=rfl
@[simp] theorem PY(t:Nat):aI [] t=none:=rfl
@[simp] theorem PZ(k t:Nat)(v x:List AV):aU ((k,v)::h) t x=if k=t then (k,x)::h else (k,v)::aU h t x:=rfl
@[simp] theorem P3(t:Nat):ev env (.tmp t)=get env t:=rfl
@[simp] theorem P4(v:Value):ev env (.const v)=cst v:=rfl
@[simp] theorem P5(f:FuncId):ev env (.func f)=.fn f []:=rfl
end
attribute [simp] cst jg
@[simp ↓] theorem P6(dst:Option Tmp)(op:Op)(ty:TypeId)(pos:String)(after:Array Edge)(os:List Oper)(K:Env→ab→Nat→Prop):a7 P ops nt (⟨dst,op,ty,pos,after,none⟩::os) env h n K=(dOk nt dst∧aZ P env h n op fun v h' n'=>a7 P ops nt os (put env dst v) h' n' K):=by
 simp[a7,cV]
@[simp ↓] theorem P7(dst:Option Tmp)(op:Op)(ty:TypeId)(pos:String)(after:Array Edge)(os:List Oper)(K:Env→ab→Nat→Prop):df P ops nt (⟨dst,op,ty,pos,after,none⟩::os) env h n K=(dOk nt dst∧aV P env h n op fun v E=>df P ops nt os (put env dst v) (aP h n E) (n+E.length) K):=by
 simp[df,cV]
def gW(g:Option Bool)(X Y:Prop):Prop:=
 match g with
 |some b=>(b=true→X)∧(b=false→Y)
 |none=>False
section
omit [ak]
@[congr] theorem P8{g g':Option Bool}{X Y:Prop}(h:g=g'):gW g X Y=gW g' X Y:=by rw[h]
@[simp] theorem xz(X Y:Prop):gW (some true) X Y=X:=by simp[gW]
@[simp] theorem xA(X Y:Prop):gW (some false) X Y=Y:=by simp[gW]
end
def qD(v:AV)(want:Bool):Option Bool:=
 match v with
 |.w _ _ (.bool b)=>some (b==want)
 |.tup []=>some false
 |_=>none
omit [ak] in
@[simp] theorem P9(o f b want:Bool):qD (.w o f (.bool b)) want=some (b==want):=rfl
omit [ak] in
@[simp] theorem Qa(want:Bool):qD (.tup []) want=some false:=rfl
def gOf(ops:Array Oper)(env:Env)(j:Nat)(want:Bool):Option Bool:=
 match bD ops j with
 |none=>some false
 |some t=>qD (get env t) want
omit [ak] in
theorem xB(dst:Option Tmp)(op:Op)(ty:TypeId)(pos:String)(after:Array Edge)(j:Nat)(want:Bool):cV ops env ⟨dst,op,ty,pos,after,some (j,want)⟩=gOf ops env j want:=by
 unfold cV gOf bD;dsimp only
 cases (ops[j]?).bind (·.dst)<;>rfl
theorem JS(dst:Option Tmp)(op:Op)(ty:TypeId)(pos:String)(after:Array Edge)(j:Nat)(want:Bool)(os:List Oper)(K:Env→ab→Nat→Prop):a7 P ops nt (⟨dst,op,ty,pos,after,some (j,want)⟩::os) env h n K=(dOk nt dst∧gW (gOf ops env j want) (aZ P env h n op fun v h' n'=>a7 P ops nt os (put env dst v) h' n' K) (a7 P ops nt os (put env dst (.tup [])) h n K)):=by
 conv=>lhs;unfold a7
 rw[xB]
 cases gOf ops env j want<;>simp[gW]
theorem JU(dst:Option Tmp)(op:Op)(ty:TypeId)(pos:String)(after:Array Edge)(j:Nat)(want:Bool)(os:List Oper)(K:Env→ab→Nat→Prop):df P ops nt (⟨dst,op,ty,pos,after,some (j,want)⟩::os) env h n K=(dOk nt dst∧gW (gOf ops env j want) (aV P env h n op fun v E=>df P ops nt os (put env dst v) (aP h n E) (n+E.length) K) (df P ops nt os (put env dst (.tup [])) h n K)):=by
 conv=>lhs;unfold df
 rw[xB]
 cases gOf ops env j want<;>simp[gW]
def gM(g:Option Bool)(X Y:Prop)(_:Mark (X,Y)):Prop:=gW g X Y
omit [ak] in
@[congr] theorem Qb{g g':Option Bool}{X Y:Prop}{mk:Mark (X,Y)}(h:g=g'):gM g X Y mk=gM g' X Y mk:=by rw[h]
def gE(g:Option Bool)(P:Program)(env:Env)(h:ab)(n:Nat)(op:Op)(K:AV→ab→Nat→Prop)(_:Mark K):Prop:=gW g (aZ P env h n op K) (K (.tup []) h n)
def gQ(g:Option Bool)(P:Program)(env:Env)(h:ab)(n:Nat)(op:Op)(K:AV→List (List AV)→Prop)(_:Mark K):Prop:=gW g (aV P env h n op K) (K (.tup []) [])
@[congr] theorem Qc{g g':Option Bool}{P:Program}{env env':Env}{h h':ab}{n n':Nat}{op:Op}{K:AV→ab→Nat→Prop}{mk:Mark K}(e1:g=g')(e2:env=env')(e3:h=h')(e4:n=n'):gE g P env h n op K mk=gE g' P env' h' n' op K mk:=by rw[e1,e2,e3,e4]
@[congr] theorem Qd{g g':Option Bool}{P:Program}{env env':Env}{h h':ab}{n n':Nat}{op:Op}{K:AV→List (List AV)→Prop}{mk:Mark K}(e1:g=g')(e2:env=env')(e3:h=h')(e4:n=n'):gQ g P env h n op K mk=gQ g' P env' h' n' op K mk:=by rw[e1,e2,e3,e4]
section
variable{op:Op}{K:AV→ab→Nat→Prop}{mk:Mark K}{Kq:AV→List (List AV)→Prop}{mkq:Mark Kq}{b:Bool}{p:Prop}[Decidable p]
@[simp] theorem Qe:gE (some true) P env h n op K mk=aZ P env h n op K:=by unfold gE;exact xz _ _
@[simp] theorem Qf:gE (some false) P env h n op K mk=K (.tup []) h n:=by unfold gE;exact xA _ _
@[simp] theorem Qg:gQ (some true) P env h n op Kq mkq=aV P env h n op Kq:=by unfold gQ;exact xz _ _
@[simp] theorem Qh:gQ (some false) P env h n op Kq mkq=Kq (.tup []) []:=by unfold gQ;exact xA _ _
theorem xC(hx:b=true→aZ P env h n op K)(hy:b=false→K (.tup []) h n):gE (some b) P env h n op K mk:=⟨hx,hy⟩
theorem CH(hx:b=false→aZ P env h n op K)(hy:b=true→K (.tup []) h n):gE (some (!b)) P env h n op K mk:=⟨fun h=>hx (by simpa using h),fun h=>hy (by simpa using h)⟩
end
section
variable{dst:Option Tmp}{op:Op}{ty:TypeId}{pos:String}{after:Array Edge}{j:Nat}{want:Bool}{os:List Oper}
@[simp ↓] theorem Qi{K:Env→ab→Nat→Prop}:a7 P ops nt (⟨dst,op,ty,pos,after,some (j,want)⟩::os) env h n K=(dOk nt dst∧gE (gOf ops env j want) P env h n op (fun v h' n'=>a7 P ops nt os (put env dst v) h' n' K) .it):=JS ..
@[simp ↓] theorem Qj{K:Env→ab→Nat→Prop}:df P ops nt (⟨dst,op,ty,pos,after,some (j,want)⟩::os) env h n K=(dOk nt dst∧gQ (gOf ops env j want) P env h n op (fun v E=>df P ops nt os (put env dst v) (aP h n E) (n+E.length) K) .it):=JU ..
end
def jv:List Oper→Nat→Option Tmp
 |[],_=>none
 |o::_,0=>o.dst
 |_::r,k+1=>jv r k
omit [ak] in
@[simp] theorem Qk(o:Oper)(r:List Oper):jv (o::r) 0=o.dst:=by rw[jv]
omit [ak] in
@[simp] theorem Ql(o:Oper)(r:List Oper)(k:Nat):jv (o::r) (k+1)=jv r k:=by rw[jv]
def gV(env:Env)(d:Option Tmp)(want:Bool):Option Bool:=
 match d with
 |none=>some false
 |some t=>qD (get env t) want
section
omit [ak]
@[simp] theorem Qm(t:Tmp)(want:Bool):gV env (some t) want=qD (get env t) want:=rfl
theorem CI:∀(l:List Oper)(j:Nat),jv l j=(l[j]?).bind (·.dst)
 |[],j=>by simp[jv]
 |o::r,0=>rfl
 |o::r,j+1=>by simp only[jv,List.getElem?_cons_succ];exact CI r j
@[simp] theorem Qn(l:List Oper)(j:Nat)(want:Bool):gOf l.toArray env j want=gV env (jv l j) want:=by
 unfold gOf bD gV;rw[List.getElem?_toArray,CI]
 cases (l[j]?).bind (·.dst)<;>rfl
end
@[simp ↓] theorem Qo(x:Operand)(K:AV→ab→Nat→Prop):aZ P env h n (.move x) K=K (ev env x) h n:=by simp[aZ,aV,aOp]
@[simp ↓] theorem Qp(x:Operand)(K:AV→ab→Nat→Prop):aZ P env h n (.assign x) K=K (ev env x) h n:=by simp[aZ,aV,aOp]
@[simp ↓] theorem Qq(x:Operand)(K:AV→List (List AV)→Prop):aV P env h n (.move x) K=K (ev env x) []:=by simp[aV,aOp]
@[simp ↓] theorem Qr(x:Operand)(K:AV→List (List AV)→Prop):aV P env h n (.assign x) K=K (ev env x) []:=by simp[aV,aOp]
end
def zo(h:ab)(ty:Option (Nat×Bool))(ad x:AV):Option (Prop×ab):=
 match ty,ad with
 |some (sz,_),.ptr id ver off=>
  match aI h id with
  |some cells=>some ((cells.length=ver∧x.ok=true∧x.cells.length=sz∧off+sz≤cells.length∧bJ x.cells=true),aU h id (dc cells off x.cells))
  |none=>none
 |_,_=>none
def zp(P:Program)(h:ab)(n:Nat)(t tx:TypeId)(s x:AV):Option (Prop×AV×ab×Nat):=
 match slE P t,slE P tx with
 |some (e,sz),some _=>
  match byE P e,cf P e,eo h sz x with
  |some by_,some z,some (k2,news,c)=>
   match s with
   |.msl id ver z' off k=>
    match aI h id with
    |some cells=>some ((c∧off=0∧cells.length=ver∧z'=sz∧z.length=sz∧0<sz∧k*sz≤ver∧k+k2≤1000000000∧by_≤100000∧bJ news=true),
      .msl id (er cells (k*sz) news).length sz 0 (k+k2),aU h id (er cells (k*sz) news),n)
    |none=>none
   |.w own true (.sl k cells)=>
    bif own&&decide (k=0)&&cells.isEmpty then some ((c∧0<k2∧z.length=sz∧0<sz∧k2≤1000000000∧by_≤100000),.msl n news.length sz 0 k2,(n,news)::h,n+1)
    else match pvs news with
     |some q=>some ((c∧cells.length=k*sz∧z.length=sz∧0<sz∧k+k2≤1000000000∧by_≤100000),.w (de q&&(own || cells.isEmpty)) false (.sl (k+k2) (cells++q)),h,n)
     |none=>none
   |_=>none
  |_,_,_=>none
 |_,_=>none
def zq(P:Program)(h:ab)(n:Nat)(args:List AV)(tys:List TypeId):Option (Prop×AV×ab×Nat):=
 match args,tys with
 |[s,x],[t,tx]=>zp P h n t tx s x
 |_,_=>none
def sM(r:Option (Prop×ab))(n:Nat)(K:AV→ab→Nat→Prop)(_:Mark K):Prop:=
 match r with
 |some (c,h')=>c∧K (.tup []) h' n
 |none=>False
def pM(r:Option (Prop×AV×ab×Nat))(K:AV→ab→Nat→Prop)(_:Mark K):Prop:=
 match r with
 |some (c,v,h',n')=>c∧K v h' n'
 |none=>False
section
omit [ak]
@[congr] theorem Qt{r r':Option (Prop×ab)}{n n':Nat}{K:AV→ab→Nat→Prop}{mk:Mark K}(h:r=r')(h2:n=n'):sM r n K mk=sM r' n' K mk:=by rw[h,h2]
@[congr] theorem Qu{r r':Option (Prop×AV×ab×Nat)}{K:AV→ab→Nat→Prop}{mk:Mark K}(h:r=r'):pM r K mk=pM r' K mk:=by rw[h]
@[simp] theorem Qv(c:Prop)(h':ab)(n:Nat)(K:AV→ab→Nat→Prop)(mk:Mark K):sM (some (c,h')) n K mk=(c∧K (.tup []) h' n):=rfl
@[simp] theorem Qw(c:Prop)(v:AV)(h':ab)(n':Nat)(K:AV→ab→Nat→Prop)(mk:Mark K):pM (some (c,v,h',n')) K mk=(c∧K v h' n'):=rfl
end
@[simp ↓] theorem Qx{P:Program}{env:Env}{h:ab}{n:Nat}(t:TypeId)(ad x:Operand)(K:AV→ab→Nat→Prop):aZ P env h n (.store t ad x) K=sM (zo h (tyL P t) (ev env ad) (ev env x)) n K .it:=by
 show oz P env h n t ad x K=_;unfold oz zo
 cases tyL P t with
 |none=>cases ev env ad<;>rfl
 |some y=>
  obtain⟨sz,g⟩:=y
  cases ev env ad with
  |ptr id ver off=>dsimp only;cases aI h id<;>rfl
  |_=>rfl
@[simp ↓] theorem Qy{P:Program}{env:Env}{h:ab}{n:Nat}(args:Array Operand)(tys:Array TypeId)(K:AV→ab→Nat→Prop):aZ P env h n (.call ⟨.builtin .append,args,tys⟩) K=pM (zq P h n (args.toList.map (ev env)) tys.toList) K .it:=by
 show ou P env h n args.toList tys.toList K=_;generalize args.toList=la;generalize tys.toList=lt;unfold ou zq
 match la,lt with
 |[s,x],[t,tx]=>
  simp only[List.map];unfold zp
  cases slE P t with
  |none=>rfl
  |some y=>
   obtain⟨e,sz⟩:=y
   cases slE P tx with
   |none=>rfl
   |some y2=>
    dsimp only
    cases byE P e with
    |none=>rfl
    |some by_=>
     cases cf P e with
     |none=>rfl
     |some z=>
      cases eo h sz (ev env x) with
      |none=>rfl
      |some y3=>
       obtain⟨k2,news,c⟩:=y3;dsimp only
       cases ev env s with
       |msl id ver z' off k=>dsimp only;cases aI h id<;>rfl
       |w own f p=>
        cases f with
        |false=>rfl
        |true=>
         cases p with
         |sl k cells=>
          dsimp only
          cases (own&&decide (k=0)&&cells.isEmpty) with
          |true=>rfl
          |false=>simp only[cond_false];cases pvs news<;>rfl
         |_=>rfl
       |_=>rfl
 |[],_=>simp[pM]
 |[_],_=>simp[pM]
 |_::_::_::_,_=>simp[pM]
 |[_,_],[]=>simp[pM]
 |[_,_],[_]=>simp[pM]
 |[_,_],_::_::_::_=>simp[pM]
@[simp ↓] theorem Qz{P:Program}{env:Env}{h:ab}{n:Nat}(args:Array Operand)(tys:Array TypeId)(K:AV→ab→Nat→Prop):aZ P env h n (.call ⟨.builtin .copy,args,tys⟩) K=pM ((oA P h (args.toList.map (ev env)) tys.toList).map fun y=>(y.1,y.2.1,y.2.2,n)) K .it:=by
 show oB P env h n args.toList tys.toList K=_;unfold oB
 cases oA P h (args.toList.map (ev env)) tys.toList with
 |none=>rfl
 |some y=>rfl
attribute [simp] oA lO shr
def eK(h:ab)(n:Nat)(K:AV→ab→Nat→Prop):AV→List (List AV)→Prop:=fun v E=>K v (aP h n E) (n+E.length)
omit [ak] in
@[simp ↓] theorem QA(h:ab)(n:Nat)(K:AV→ab→Nat→Prop)(v:AV):eK h n K v []=K v h n:=by unfold eK;rfl
omit [ak] in
@[simp ↓] theorem QB(h:ab)(n:Nat)(K:AV→ab→Nat→Prop)(v:AV)(c:List AV):eK h n K v [c]=K v ((n,c)::h) (n+1):=by unfold eK;rfl
section
variable{P:Program}{env:Env}{h:ab}{n:Nat}(K:AV→ab→Nat→Prop)(Kq:AV→List (List AV)→Prop)
def gdV(b:Bool)(v:AV):AV:=bif b then v else .tup []
omit [ak] in
@[simp] theorem QD(v:AV):gdV true v=v:=rfl
omit [ak] in
@[simp] theorem QE(v:AV):gdV false v=.tup []:=rfl
def pkW(c x y:AV)(K:AV→List (List AV)→Prop)(_:Mark K):Prop:=
 match c with
 |.w _ _ (.bool t)=>
  match x,y with
  |.w _ _ (.bool a),.w _ _ (.bool b)=>K (.w false false (.bool (bif t then a else b))) []
  |x,y=>K (bif t then x else y) []
 |_=>False
omit [ak] in
@[congr] theorem QG{c c' x x' y y':AV}{K:AV→List (List AV)→Prop}{mk:Mark K}(h1:c=c')(h2:x=x')(h3:y=y'):pkW c x y K mk=pkW c' x' y' K mk:=by rw[h1,h2,h3]
section
variable{K:AV→List (List AV)→Prop}{mk:Mark K}
section
omit [ak]
@[simp] theorem QH(o f t o1 f1 a o2 f2 b:Bool):pkW (.w o f (.bool t)) (.w o1 f1 (.bool a)) (.w o2 f2 (.bool b)) K mk=K (.w false false (.bool (bif t then a else b))) []:=rfl
@[simp] theorem QI(o f t:Bool)(l:List AV)(y:AV):pkW (.w o f (.bool t)) (.tup l) y K mk=K (bif t then .tup l else y) []:=rfl
@[simp] theorem QJ(o f t:Bool)(l:List AV)(x:AV):pkW (.w o f (.bool t)) x (.tup l) K mk=K (bif t then x else .tup l) []:=by
 unfold pkW;simp only
end
@[simp ↓] theorem JV(c x y:Operand):aV P env h n (.pick c x y) K=pkW (ev env c) (ev env x) (ev env y) K .it:=by
 simp only[aV,aOp,pkW];generalize ev env c=cv;generalize ev env x=xv;generalize ev env y=yv
 cases cv with
 |w o f v=>
  cases v with
  |bool t=>
   simp only;split
   ·rename_i e1;split at e1<;>(injection e1 with e1;injection e1 with e1 e;injection e with e2 e3;subst e1;subst e2;subst e3;simp)
   ·rename_i e1;split at e1<;>cases e1
  |_=>rfl
 |_=>rfl
@[simp ↓] theorem QK(c x y:Operand)(K:AV→ab→Nat→Prop):aZ P env h n (.pick c x y) K=pkW (ev env c) (ev env x) (ev env y) (eK h n K) .it:=by
 rw[←JV];rfl
end
@[simp ↓] theorem QL(t:TypeId):aZ P env h n (.alloc t) K=aW (aOp P h n (ev env) (.alloc t)) (eK h n K) .it:=rfl
@[simp ↓] theorem QM(t:TypeId):aV P env h n (.alloc t) Kq=aW (aOp P h n (ev env) (.alloc t)) Kq .it:=rfl
@[simp ↓] theorem XG(t:TypeId)(x:Operand):aZ P env h n (.box t x) K=aW (aOp P h n (ev env) (.box t x)) (eK h n K) .it:=rfl
@[simp ↓] theorem XH(t:TypeId)(x:Operand):aV P env h n (.box t x) Kq=aW (aOp P h n (ev env) (.box t x)) Kq .it:=rfl
@[simp ↓] theorem QN(t:TypeId)(ps:Array (Nat×Operand)):aZ P env h n (.build t ps) K=aW (aOp P h n (ev env) (.build t ps)) (eK h n K) .it:=rfl
@[simp ↓] theorem QO(t:TypeId)(ps:Array (Nat×Operand)):aV P env h n (.build t ps) Kq=aW (aOp P h n (ev env) (.build t ps)) Kq .it:=rfl
@[simp ↓] theorem QP(t:TypeId)(l:Nat)(ps:Array (Nat×Operand)):aZ P env h n (.buildSlice t l ps) K=aW (aOp P h n (ev env) (.buildSlice t l ps)) (eK h n K) .it:=rfl
@[simp ↓] theorem QQ(t:TypeId)(l:Nat)(ps:Array (Nat×Operand)):aV P env h n (.buildSlice t l ps) Kq=aW (aOp P h n (ev env) (.buildSlice t l ps)) Kq .it:=rfl
@[simp ↓] theorem QR(t:TypeId)(x:Operand):aZ P env h n (.load t x) K=aW (aOp P h n (ev env) (.load t x)) (eK h n K) .it:=rfl
@[simp ↓] theorem QS(t:TypeId)(x:Operand):aV P env h n (.load t x) Kq=aW (aOp P h n (ev env) (.load t x)) Kq .it:=rfl
@[simp ↓] theorem QT(x:Operand):aZ P env h n (.nilCheck x) K=aW (aOp P h n (ev env) (.nilCheck x)) (eK h n K) .it:=rfl
@[simp ↓] theorem QU(x:Operand):aV P env h n (.nilCheck x) Kq=aW (aOp P h n (ev env) (.nilCheck x)) Kq .it:=rfl
@[simp ↓] theorem QV(op:BinOp)(t:TypeId)(x y:Operand)(yt:TypeId):aZ P env h n (.binOp op t x y yt) K=aW (aOp P h n (ev env) (.binOp op t x y yt)) (eK h n K) .it:=rfl
@[simp ↓] theorem QW(op:BinOp)(t:TypeId)(x y:Operand)(yt:TypeId):aV P env h n (.binOp op t x y yt) Kq=aW (aOp P h n (ev env) (.binOp op t x y yt)) Kq .it:=rfl
@[simp ↓] theorem QX(op:UnOp)(t:TypeId)(x:Operand):aZ P env h n (.unOp op t x) K=aW (aOp P h n (ev env) (.unOp op t x)) (eK h n K) .it:=rfl
@[simp ↓] theorem QY(op:UnOp)(t:TypeId)(x:Operand):aV P env h n (.unOp op t x) Kq=aW (aOp P h n (ev env) (.unOp op t x)) Kq .it:=rfl
def cvW(P:Program)(env:Env)(h:ab)(n:Nat)(src dst:TypeId)(x:Operand)(v:AV)(K:AV→ab→Nat→Prop)(_:Mark K):Prop:=
 match v with
 |.w _ _ (.str s)=>oD P src dst=true∧K (.w true false (.sl s.size (iL s))) h n
 |_=>aV P env h n (.convert src dst x) fun v E=>K v (aP h n E) (n+E.length)
@[congr] theorem QZ{P:Program}{env:Env}{h:ab}{n:Nat}{src dst:TypeId}{x:Operand}{v v':AV}{K:AV→ab→Nat→Prop}{mk:Mark K}(e:v=v'):cvW P env h n src dst x v K mk=cvW P env h n src dst x v' K mk:=by rw[e]
@[simp] theorem Q0(src dst:TypeId)(x:Operand)(o f:Bool)(s:ByteArray)(K:AV→ab→Nat→Prop)(mk:Mark K):cvW P env h n src dst x (.w o f (.str s)) K mk=(oD P src dst=true∧K (.w true false (.sl s.size (iL s))) h n):=rfl
@[simp] theorem Q3(src dst:TypeId)(x:Operand)(o f:Bool)(k:IntKind)(a:Int)(K:AV→ab→Nat→Prop)(mk:Mark K):cvW P env h n src dst x (.w o f (.int k a)) K mk=aW (aOp P h n (ev env) (.convert src dst x)) (eK h n K) .it:=rfl
omit [ak] in
@[simp] theorem Q4(s:ByteArray):(iL s).length=s.size:=by simp[iL]
@[simp ↓] theorem Q5(s d:TypeId)(x:Operand):aZ P env h n (.convert s d x) K=cvW P env h n s d x (ev env x) K .it:=rfl
@[simp ↓] theorem Q6(s d:TypeId)(x:Operand):aV P env h n (.convert s d x) Kq=aW (aOp P h n (ev env) (.convert s d x)) Kq .it:=rfl
@[simp ↓] theorem Q7(t:TypeId)(x:Operand):aZ P env h n (.makeInterface t x) K=aW (aOp P h n (ev env) (.makeInterface t x)) (eK h n K) .it:=rfl
@[simp ↓] theorem Q8(t:TypeId)(x:Operand):aV P env h n (.makeInterface t x) Kq=aW (aOp P h n (ev env) (.makeInterface t x)) Kq .it:=rfl
@[simp ↓] theorem Q9(f:Fn)(a b:Array Operand):aZ P env h n (.makeFunc f a b) K=aW (aOp P h n (ev env) (.makeFunc f a b)) (eK h n K) .it:=rfl
@[simp ↓] theorem Ra(f:Fn)(a b:Array Operand):aV P env h n (.makeFunc f a b) Kq=aW (aOp P h n (ev env) (.makeFunc f a b)) Kq .it:=rfl
@[simp ↓] theorem Rb(t:TypeId)(x y:Operand):aZ P env h n (.makeSlice t x y) K=aW (aOp P h n (ev env) (.makeSlice t x y)) (eK h n K) .it:=rfl
@[simp ↓] theorem Rc(t:TypeId)(x y:Operand):aV P env h n (.makeSlice t x y) Kq=aW (aOp P h n (ev env) (.makeSlice t x y)) Kq .it:=rfl
@[simp ↓] theorem Re(t:TypeId)(x:Operand)(l u m:Option Operand):aZ P env h n (.slice t x l u m) K=aW (aOp P h n (ev env) (.slice t x l u m)) (eK h n K) .it:=rfl
@[simp ↓] theorem Rf(t:TypeId)(x:Operand)(l u m:Option Operand):aV P env h n (.slice t x l u m) Kq=aW (aOp P h n (ev env) (.slice t x l u m)) Kq .it:=rfl
@[simp ↓] theorem Rg(t:TypeId)(x:Operand)(f:Nat):aZ P env h n (.fieldAddr t x f) K=aW (aOp P h n (ev env) (.fieldAddr t x f)) (eK h n K) .it:=rfl
@[simp ↓] theorem Rh(t:TypeId)(x:Operand)(f:Nat):aV P env h n (.fieldAddr t x f) Kq=aW (aOp P h n (ev env) (.fieldAddr t x f)) Kq .it:=rfl
@[simp ↓] theorem Ri(t:TypeId)(x:Operand)(f:Nat):aZ P env h n (.field t x f) K=aW (aOp P h n (ev env) (.field t x f)) (eK h n K) .it:=rfl
@[simp ↓] theorem Rj(t:TypeId)(x:Operand)(f:Nat):aV P env h n (.field t x f) Kq=aW (aOp P h n (ev env) (.field t x f)) Kq .it:=rfl
@[simp ↓] theorem Rk(t:TypeId)(x i:Operand):aZ P env h n (.indexAddr t x i) K=aW (aOp P h n (ev env) (.indexAddr t x i)) (eK h n K) .it:=rfl
@[simp ↓] theorem Rl(t:TypeId)(x i:Operand):aV P env h n (.indexAddr t x i) Kq=aW (aOp P h n (ev env) (.indexAddr t x i)) Kq .it:=rfl
@[simp ↓] theorem Rm(t:TypeId)(x i:Operand):aZ P env h n (.index t x i) K=aW (aOp P h n (ev env) (.index t x i)) (eK h n K) .it:=rfl
@[simp ↓] theorem Rn(t:TypeId)(x i:Operand):aV P env h n (.index t x i) Kq=aW (aOp P h n (ev env) (.index t x i)) Kq .it:=rfl
@[simp ↓] theorem Ro(x:Operand)(i:Nat):aZ P env h n (.extract x i) K=aW (aOp P h n (ev env) (.extract x i)) (eK h n K) .it:=rfl
@[simp ↓] theorem Rp(x:Operand)(i:Nat):aV P env h n (.extract x i) Kq=aW (aOp P h n (ev env) (.extract x i)) Kq .it:=rfl
@[simp ↓] theorem XI(a:Array Operand)(t:Array TypeId):aZ P env h n (.call ⟨.builtin .len,a,t⟩) K=aW (aOp P h n (ev env) (.call ⟨.builtin .len,a,t⟩)) (eK h n K) .it:=rfl
@[simp ↓] theorem XJ(a:Array Operand)(t:Array TypeId):aV P env h n (.call ⟨.builtin .len,a,t⟩) Kq=aW (aOp P h n (ev env) (.call ⟨.builtin .len,a,t⟩)) Kq .it:=rfl
@[simp ↓] theorem XK(a:Array Operand)(t:Array TypeId):aZ P env h n (.call ⟨.builtin .max,a,t⟩) K=aW (aOp P h n (ev env) (.call ⟨.builtin .max,a,t⟩)) (eK h n K) .it:=rfl
@[simp ↓] theorem XL(a:Array Operand)(t:Array TypeId):aV P env h n (.call ⟨.builtin .max,a,t⟩) Kq=aW (aOp P h n (ev env) (.call ⟨.builtin .max,a,t⟩)) Kq .it:=rfl
@[simp ↓] theorem XM(a:Array Operand)(t:Array TypeId):aZ P env h n (.call ⟨.builtin .min,a,t⟩) K=aW (aOp P h n (ev env) (.call ⟨.builtin .min,a,t⟩)) (eK h n K) .it:=rfl
@[simp ↓] theorem XN(a:Array Operand)(t:Array TypeId):aV P env h n (.call ⟨.builtin .min,a,t⟩) Kq=aW (aOp P h n (ev env) (.call ⟨.builtin .min,a,t⟩)) Kq .it:=rfl
@[simp ↓] theorem Rq(a:Array Operand)(t:Array TypeId):aV P env h n (.call ⟨.builtin .append,a,t⟩) Kq=aW (aOp P h n (ev env) (.call ⟨.builtin .append,a,t⟩)) Kq .it:=rfl
def cW(P:Program)(h:ab)(n:Nat)(f:Option (FuncId×List AV))(args:List AV)(K:AV→List (List AV)→Prop)(_:Mark K):Prop:=
 match f with
 |some (g,ar)=>qn P h n g (args++ar) K
 |none=>False
@[congr] theorem Rr{P:Program}{h h':ab}{n:Nat}{f f':Option (FuncId×List AV)}{args args':List AV}{K:AV→List (List AV)→Prop}{mk:Mark K}(h0:h=h')(h1:f=f')(h2:args=args'):cW P h n f args K mk=cW P h' n f' args' K mk:=by rw[h0,h1,h2]
@[simp ↓] theorem Rs(f:Operand)(a:Array Operand)(t:Array TypeId):aZ P env h n (.call ⟨.value f,a,t⟩) K=cW P h n (cU (ev env f)) (a.toList.map (ev env)) (eK h n K) .it:=by
 simp only[aZ,aV,cW];rfl
@[simp ↓] theorem Rt(f:Operand)(a:Array Operand)(t:Array TypeId):aV P env h n (.call ⟨.value f,a,t⟩) Kq=cW P h n (cU (ev env f)) (a.toList.map (ev env)) Kq .it:=by
 simp only[aV,cW];rfl
def fW(P:Program)(n:Nat)(g:FuncId)(a:Option (List PV))(pure:Bool)(K:AV→List (List AV)→Prop)(_:Mark K):Prop:=
 match a with
 |some pvs=>CW P g pvs (fun res fr=>(fr=true∨pure=true)∧K (.w (lN fr res) false res) []) (fun E v=>K (v.sh n) (E.map (AV.sh.shL n))) .it
 |none=>False
@[congr] theorem Ru{P:Program}{n:Nat}{g:FuncId}{a a':Option (List PV)}{p p':Bool}{K:AV→List (List AV)→Prop}{mk:Mark K}(h0:a=a')(h1:p=p'):fW P n g a p K mk=fW P n g a' p' K mk:=by rw[h0,h1]
@[simp] theorem Rv(g:FuncId)(ar args:List AV)(mk:Mark Kq):cW P h n (some (g,ar)) args Kq mk=fW P n g (gS h (args++ar)) (ji (args++ar)) Kq .it:=rfl
@[simp] theorem Rw(g:FuncId)(pvs:List PV)(p:Bool)(mk:Mark Kq):fW P n g (some pvs) p Kq mk=CW P g pvs (fun res fr=>(fr=true∨p=true)∧Kq (.w (lN fr res) false res) []) (fun E v=>Kq (v.sh n) (E.map (AV.sh.shL n))) .it:=rfl
end
theorem cw{P:Program}{g:FuncId}{args:List PV}{K:PV→Bool→Prop}{K2:List (List AV)→AV→Prop}{res:PV}{fr:Bool}{mk:Mark (K,K2)}(h:aF P g args res fr)(hk:K res fr):CW P g args K K2 mk:=.inl ⟨res,fr,h,hk⟩
theorem cwM{P:Program}{g:FuncId}{args:List PV}{K:PV→Bool→Prop}{K2:List (List AV)→AV→Prop}{E:List (List AV)}{v:AV}{mk:Mark (K,K2)}(h:oo P g args E v)(hk:K2 E v):CW P g args K K2 mk:=.inr ⟨E,v,h,hk⟩
section
omit [ak]
@[simp] theorem OS(n:Nat)(o f:Bool)(p:PV):AV.sh n (.w o f p)=.w o f p:=rfl
@[simp] theorem JW(n id v off:Nat):AV.sh n (.ptr id v off)=.ptr (id+n) v off:=rfl
@[simp] theorem JX(n id v sz off k:Nat):AV.sh n (.msl id v sz off k)=.msl (id+n) v sz off k:=rfl
@[simp] theorem JY(n:Nat)(cs:List AV):AV.sh n (.agg cs)=.agg (AV.sh.shL n cs):=rfl
@[simp] theorem JZ(n:Nat)(cs:List AV):AV.sh n (.tup cs)=.tup (AV.sh.shL n cs):=rfl
@[simp] theorem Rx(n:Nat):AV.sh.shL n []=[]:=rfl
@[simp] theorem Ry(n:Nat)(x:AV)(r:List AV):AV.sh.shL n (x::r)=x.sh n::AV.sh.shL n r:=rfl
end
@[simp ↓] theorem Rz(P:Program)(b:Code)(K:Exit→St→Prop)(s:St):oF fk P b K .normal s=aM fk P b s K:=rfl
@[simp ↓] theorem RA(P:Program)(b:Code)(K:Exit→St→Prop)(s:St):oF fk P b K .ret s=K .ret s:=rfl
@[simp ↓] theorem RB(P:Program)(b:Code)(K:Exit→St→Prop)(id:Nat)(s:St):oF fk P b K (.exit id) s=K (.exit id) s:=rfl
section
omit [ak]
@[simp ↓] theorem RD(i:Nat)(K:Exit→St→Prop)(s:St):ew i K .normal s=K .normal s:=rfl
@[simp ↓] theorem RF(i:Nat)(K:Exit→St→Prop)(s:St):ew i K .ret s=K .ret s:=rfl
@[simp ↓] theorem RG(i id:Nat)(K:Exit→St→Prop)(s:St):ew i K (.exit id) s=if id=i then K .normal s else K (.exit id) s:=rfl
@[simp ↓] theorem RH(P:Program)(rs:List ResultVar)(res:PV)(fr:Bool)(s:St):oU P rs res fr .normal s=ky P rs s res fr:=rfl
@[simp ↓] theorem RJ(P:Program)(rs:List ResultVar)(res:PV)(fr:Bool)(s:St):oU P rs res fr .ret s=ky P rs s res fr:=rfl
end
theorem nx{fk:Fk}{α:Type}{J:α→Prop}{I:α→St}{μ:α→Nat}{x:α}{K:Exit→St→Prop}{s:St}(y:α)(h:J y)(hle:Lek fk s (I y))(hm:μ y<μ x:=by first|omega|(dsimp only;omega)|(simp;omega)):gU fk J I μ x K .normal s:=⟨y,h,hm,hle⟩
section
variable{α:Type}(J:α→Prop)(I:α→St)(μ:α→Nat)(x:α)(K:Exit→St→Prop)
theorem pR(y:α)(s:St)(h:J y)(hm:μ y<μ x)(hle:Lek fk s (I y)):gU fk J I μ x K .normal s:=⟨y,h,hm,hle⟩
@[simp ↓] theorem RK(s:St):gU fk J I μ x K .ret s=K .ret s:=rfl
@[simp ↓] theorem RO(id:Nat)(s:St):gU fk J I μ x K (.exit id) s=K (.exit id) s:=rfl
end
section
variable{β:Type}(id:Nat)(F:β→Prop)(fin:β→St)(R:St→Prop)
@[simp ↓] theorem RP(s:St):yD fk id F fin R .ret s=R s:=rfl
@[congr] theorem RQ{id:Nat}{F:β→Prop}{fin:β→St}{R:St→Prop}{e e':Exit}{s s':St}(h:e=e')(h2:s=s'):yD fk id F fin R e s=yD fk id F fin R e' s':=by rw[h,h2]
end
@[congr] theorem RS{P:Program}{b:Code}{K:Exit→St→Prop}{e e':Exit}{s s':St}(h:e=e')(h2:s=s'):oF fk P b K e s=oF fk P b K e' s':=by rw[h,h2]
omit [ak] in
@[congr] theorem RU{i:Nat}{K:Exit→St→Prop}{e e':Exit}{s s':St}(h:e=e')(h2:s=s'):ew i K e s=ew i K e' s':=by rw[h,h2]
@[congr] theorem RV{α:Type}{J:α→Prop}{I:α→St}{μ:α→Nat}{x:α}{K:Exit→St→Prop}{e e':Exit}{s s':St}(h:e=e')(h2:s=s'):gU fk J I μ x K e s=gU fk J I μ x K e' s':=by rw[h,h2]
omit [ak] in
@[simp] theorem RX(o f b:Bool)(X Y:Prop):j0 (.w o f (.bool b)) X Y=((b=true→X)∧(b=false→Y)):=rfl
omit [ak] in
@[simp] theorem RY(o f:Bool)(X Y:Prop):j0 (.w o f .gR) X Y=(X∧Y):=rfl
def jw(v:AV)(X Y:Prop)(_:Mark (X,Y)):Prop:=j0 v X Y
section
omit [ak]
@[congr] theorem RZ{v v':AV}{X Y:Prop}{mk:Mark (X,Y)}(h:v=v'):jw v X Y mk=jw v' X Y mk:=by rw[h]
@[simp] theorem R3(o f:Bool)(X Y:Prop)(mk:Mark (X,Y)):jw (.w o f (.bool true)) X Y mk=X:=by simp[jw,j0]
@[simp] theorem R4(o f:Bool)(X Y:Prop)(mk:Mark (X,Y)):jw (.w o f (.bool false)) X Y mk=Y:=by simp[jw,j0]
theorem nW{o f b:Bool}{X Y:Prop}{mk:Mark (X,Y)}(hx:b=true→X)(hy:b=false→Y):jw (.w o f (.bool b)) X Y mk:=⟨hx,hy⟩
theorem nX{o f:Bool}{p:Prop}[Decidable p]{X Y:Prop}{mk:Mark (X,Y)}(hx:p→X)(hy:¬p→Y):jw (.w o f (.bool (decide p))) X Y mk:=⟨fun h=>hx (by simpa using h),fun h=>hy (by simpa using h)⟩
theorem je{o f:Bool}{p:Prop}[Decidable p]{X Y:Prop}{mk:Mark (X,Y)}(hx:¬p→X)(hy:p→Y):jw (.w o f (.bool (!decide p))) X Y mk:=⟨fun h=>hx (by simpa using h),fun h=>hy (by simpa using h)⟩
end
theorem al{P:Program}{K:Exit→St→Prop}{st:St}{c:Operand}{x y:Code}(h:jw (ev st.env c) (aM fk P x st K) (aM fk P y st K) .it):aM fk P (.cond c x y) st K:=G1 h
omit [ak] in
@[congr] theorem R5{v v':AV}{X Y:Prop}(h:v=v'):j0 v X Y=j0 v' X Y:=by rw[h]
attribute [simp] yw yu yz jW aOp bin lK AV.ok AV.one AV.isAgg AV.cells dc lJ eqS eqL mZ lov hiv frz gS tI ji isW om cU eo er bJ de lN pvs zo zp zq fo fj dB oneOf ky cp oV oW nk AV.lt AV.lt.ltL ql
section
omit [ak]
@[simp] theorem R6:flat .undef=true:=rfl
@[simp] theorem R7:flat .gR=true:=rfl
@[simp] theorem R8(b:Bool):flat (.bool b)=true:=rfl
@[simp] theorem R9(k:IntKind)(n:Int):flat (.int k n)=true:=rfl
@[simp] theorem Sa(s:ByteArray):flat (.str s)=true:=rfl
@[simp] theorem Sb:flat .dQ=true:=rfl
@[simp] theorem Sc(n:Nat)(c:List PV):flat (.sl n c)=false:=rfl
@[simp] theorem Sd(n:Nat)(c:List PV):flat (.ip c n)=false:=rfl
@[simp] theorem Se(c:List PV):flat (.agg c)=false:=rfl
@[simp] theorem Sf(f:FuncId)(c:List PV):flat (.fn f c)=false:=rfl
@[simp] theorem Sg(z:List AV):ej 0 z=[]:=rfl
@[simp] theorem Sj(n:Nat)(z:AV):ej n [z]=List.replicate n z:=by
 unfold ej
 induction n with
 |zero=>rfl
 |succ n ih=>rw[List.replicate_succ,List.flatten_cons,ih];rfl
@[simp] theorem Sk(x:AV)(l:List AV):iH (x::l) 0=x:=rfl
@[simp] theorem Sm(x:AV)(l:List AV)(k:Nat):iH (x::l) (k+1)=iH l k:=rfl
@[simp] theorem Sn(x:PV)(l:List PV):bU (x::l) 0=x:=rfl
@[simp] theorem So(x:PV)(l:List PV)(k:Nat):bU (x::l) (k+1)=bU l k:=rfl
@[simp] theorem xD{α:Type}[Inhabited α](x:α)(l:List α):nth (x::l) 0=x:=rfl
@[simp] theorem xE{α:Type}[Inhabited α](x:α)(l:List α)(k:Nat):nth (x::l) (k+1)=nth l k:=rfl
theorem CJ(f:PV→AV)(l:List PV)(k:Nat)(h:k<l.length):iH (l.map f) k=f (bU l k):=by
 simp[iH,bU,List.getD_eq_getElem?_getD,List.getElem?_map,List.getElem?_eq_getElem h]
theorem CL(s:ByteArray):s=ByteArray.empty↔s.size=0:=by
 constructor
 ·rintro rfl;rfl
 ·intro h;obtain⟨⟨l⟩⟩:=s;have:l=[]:=List.eq_nil_of_length_eq_zero h;subst this;rfl
@[simp] theorem Sq(s:ByteArray)(k:Nat)(h:k<s.size):bU (iL s) k=.int .u8 (qk s k):=by
 have:k<s.data.toList.length:=by simpa using h
 simp[bU,iL,qk,List.getD_eq_getElem?_getD,List.getElem?_map,List.getElem?_eq_getElem this]
theorem aH{n:Int}(h1:-9000000000000000000≤n)(h2:n≤9000000000000000000):inI .i64 n:=by
 simp only[inI,IntKind.min,IntKind.max,IntKind.signed,IntKind.bits]
 constructor<;>simp<;>omega
end
end Go.Fi
namespace Go.Fi
open Go
theorem sV{α:Type}(f:α→List PV)(s:Nat)(hf:∀x,(f x).length=s):∀l:List α,(l.flatMap f).length=l.length*s
 |[]=>by simp
 |x::l=>by rw[List.flatMap_cons,List.length_append,hf,sV f s hf l,List.length_cons,Nat.add_mul];omega
theorem sX{α:Type}[Inhabited α](f:α→List PV)(s:Nat)(hf:∀x,(f x).length=s):∀(l:List α)(k:Nat),k<l.length→((l.flatMap f).drop (k*s)).take s=f (nth l k)
 |[],k,h=>by simp at h
 |x::l,0,h=>by
  simp only[List.flatMap_cons,Nat.zero_mul,List.drop_zero,xD];rw[List.take_append_of_le_length (by rw[hf];exact Nat.le_refl _),List.take_of_length_le (by rw[hf];exact Nat.le_refl _)]
 |x::l,k+1,h=>by
  simp only[List.flatMap_cons,xE]
  have e:(k+1)*s=s+k*s:=by rw[Nat.add_mul];omega
  have e2:(f x++l.flatMap f).drop s=l.flatMap f:=by
   rw[List.drop_append_of_le_length (by rw[hf];exact Nat.le_refl _),List.drop_of_length_le (by rw[hf];exact Nat.le_refl _),List.nil_append]
  rw[e,←List.drop_drop,e2];exact sX f s hf l k (by simpa using h)
theorem J0(a b:List PV)(j:Nat)(h:j<a.length):bU (a++b) j=bU a j:=by
 simp[bU,List.getD_eq_getElem?_getD,List.getElem?_append_left h]
theorem J1(a b:List PV)(j:Nat):bU (a++b) (a.length+j)=bU b j:=by
 unfold bU;rw[List.getD_eq_getElem?_getD,List.getElem?_append_right (by omega),List.getD_eq_getElem?_getD];congr 2;omega
theorem pT{α:Type}[Inhabited α](f:α→List PV)(s:Nat)(hf:∀x,(f x).length=s):∀(l:List α)(k j:Nat),k<l.length→j<s→bU (l.flatMap f) (k*s+j)=bU (f (nth l k)) j
 |[],k,j,h,_=>by simp at h
 |x::l,0,j,h,hj=>by
  simp only[List.flatMap_cons,Nat.zero_mul,Nat.zero_add,xD];exact J0 _ _ _ (by rw[hf];exact hj)
 |x::l,k+1,j,h,hj=>by
  simp only[List.flatMap_cons,xE]
  have e:(k+1)*s+j=(f x).length+(k*s+j):=by rw[hf,Nat.add_mul];omega
  rw[e,J1];exact pT f s hf l k j (by simpa using h) hj
theorem pW{α:Type}[Inhabited α](f:α→PV)(l:List α)(k:Nat)(h:k<l.length):bU (l.map f) k=f (nth l k):=by
 simp[bU,nth,List.getD_eq_getElem?_getD,List.getElem?_map,List.getElem?_eq_getElem h]
end Go.Fi
namespace Go.Fi
open Go Go.RowKit
variable[ak]
variable{fk:Fk}
section
variable{P:Program}{K K':Exit→St→Prop}{st st':St}
theorem aL{id:Nat}{x y:Code}(h:aM fk P (.seq x y) st (ew id K)):aM fk P (.block id (.seq x y)) st K:=pz h
theorem nY{id i:Nat}{ops:Array Oper}{b:Bool}(h:aM fk P (.region i ops b) st (ew id K)):aM fk P (.block id (.region i ops b)) st K:=pz h
theorem CM{c:Code}(h:aM fk P c st K)(hk:∀e s,K e s→∃s',Lek fk s s'∧K' e s'):aM fk P c st K':=
 fun B w0 a w m hs=>bT (h B w0 a w m hs) (fun e a' w' ⟨st',m',h1,h2⟩=>by
  obtain⟨s',hle,hk'⟩:=hk e st' h1;obtain⟨m'',hs''⟩:=hle B w0 a' w' m' h2
  exact⟨s',m'',hk',hs''⟩)
def nq(fk:Fk){β:Type}(F:β→Prop)(fin:β→St)(s:St):Prop:=∃y,F y∧Lek fk s (fin y)
theorem bl{β:Type}{F:β→Prop}{fin:β→St}{s:St}(y:β)(h:F y)(hle:Lek fk s (fin y)):nq fk F fin s:=⟨y,h,hle⟩
@[congr] theorem T6{β:Type}{F:β→Prop}{fin:β→St}{s s':St}(h:s=s'):nq fk F fin s=nq fk F fin s':=by rw[h]
def kD(fk:Fk){β:Type}(id:Nat)(F:β→Prop)(fin:β→St)(K:Exit→St→Prop):Exit→St→Prop
 |.exit i,s=>if i=id then nq fk F fin s else K (.exit i) s
 |.normal,_=>False
 |e,s=>K e s
@[simp] theorem T7{β:Type}(id i:Nat)(F:β→Prop)(fin:β→St)(s:St):kD fk id F fin K (.exit i) s=if i=id then nq fk F fin s else K (.exit i) s:=rfl
@[simp] theorem T8{β:Type}(id:Nat)(F:β→Prop)(fin:β→St)(s:St):kD fk id F fin K .ret s=K .ret s:=rfl
@[congr] theorem T9{β:Type}{id:Nat}{F:β→Prop}{fin:β→St}{e e':Exit}{s s':St}(h:e=e')(h2:s=s'):kD fk id F fin K e s=kD fk id F fin K e' s':=by rw[h,h2]
def dq(env:Env):List Nat→Env
 |[]=>[]
 |k::ks=>(k,get env k)::dq env ks
omit [ak] in
@[simp] theorem Ua(env:Env):dq env []=[]:=rfl
omit [ak] in
@[simp] theorem Ub(env:Env)(k:Nat)(ks:List Nat):dq env (k::ks)=(k,get env k)::dq env ks:=rfl
theorem xF{c:Code}{id:Nat}{env:Env}{h:ab}{n nt:Nat}{α β:Type}(J:α→Prop)(ks:List Nat)(mods:α→Env)(hf:α→ab)(μ:α→Nat)(F:β→Prop)(fks:List Nat)(fmods:β→Env)(ff:β→ab)(x0:α)(hJ:J x0)(h0:oW env n (mods x0++dq env ks))(h1:nk h n (hf x0))(round:∀x,J x→aM fk P c ⟨mods x++dq env ks,hf x,n,nt⟩ (gU fk J (fun x=>⟨mods x++dq env ks,hf x,n,nt⟩) μ x (kD fk id F (fun y=>⟨fmods y++dq env fks,ff y,n,nt⟩) K)))(after:∀y,F y→K .normal ⟨fmods y++dq env fks,ff y,n,nt⟩):aM fk P (.block id (.loop c)) ⟨env,h,n,nt⟩ K:=by
 refine G2 (fun hk=>pz (CM (vB J (fun x=>⟨mods x++dq env ks,hf x,n,nt⟩) μ x0 hJ (aG h0 h1 hk) round) (fun e s hk=>?_)))
 cases e<;>first
  |exact hk.elim
  |exact⟨s,Lek.refl s,hk⟩
  |(simp only[kD] at hk
    simp only[ew];split at hk
    ·rename_i hid;obtain⟨y,hy,hle⟩:=hk;exact⟨_,hle,by rw[if_pos hid];exact after y hy⟩
    ·rename_i hid
     exact⟨s,Lek.refl s,by rw[if_neg hid];exact hk⟩)
def qE(fk:Fk){β:Type}(F:β→Prop)(fin:β→St)(K:Exit→St→Prop):Exit→St→Prop
 |.normal,s=>nq fk F fin s
 |e,s=>K e s
@[simp] theorem Uc{β:Type}(F:β→Prop)(fin:β→St)(s:St):qE fk F fin K .normal s=nq fk F fin s:=rfl
@[simp] theorem Ud{β:Type}(i:Nat)(F:β→Prop)(fin:β→St)(s:St):qE fk F fin K (.exit i) s=K (.exit i) s:=rfl
@[simp] theorem Ue{β:Type}(F:β→Prop)(fin:β→St)(s:St):qE fk F fin K .ret s=K .ret s:=rfl
@[congr] theorem Uf{β:Type}{F:β→Prop}{fin:β→St}{e e':Exit}{s s':St}(h:e=e')(h2:s=s'):qE fk F fin K e s=qE fk F fin K e' s':=by rw[h,h2]
end
omit [ak] in
@[simp] theorem J2(h:ab)(o f:Bool):∀l:List PV,gS h (l.map (.w o f))=some l
 |[]=>rfl
 |p::r=>by simp[gS,frz,J2 h o f r]
omit [ak] in
@[simp] theorem J3(o f:Bool):∀l:List PV,ji (l.map (.w o f))=true
 |[]=>rfl
 |p::r=>by simp[ji,tI,J3 o f r]
end Go.Fi
namespace Go.Fi
open Go Go.RowKit
open Go.Conc (G)
section
variable{P:Program}{b:Frame}{a:Act}{k:List Item}{cs:List Frame}{w:World}
theorem L6{c:Code}:stepG P true (G (b.atR a (.code (.scope c)::k)) cs) w=.go (G (b.atR a (.code c::.inScope c::k)) cs) w #[]:=by simp[G,stepG,stepG.exec,Frame.atR]
theorem L8{c:Code}:stepG P true (G (b.atR a (.inScope c::k)) cs) w=.go (G (b.atR a k) cs) w #[]:=by simp[G,stepG,stepG.exec,Frame.atR]
end
section
variable[EnvD]
variable{P:Program}{r:Option Nat}{Q:Exit→Act→World→Prop}{a:Act}{w:World}
theorem L9{c:Code}(h:c.wpT r P Q a w):(Code.scope c).wpT r P Q a w:=by
 intro b k cs hr hk;refine .quiet _ _ (fun _=>L6) a9 ((h b (.inScope c::k) cs hr hk).bind ?_)
 rintro fr cs' w' ⟨rfl,e,a',hq,he⟩
 cases e with
 |normal=>subst he;exact .quiet _ _ (fun _=>L8) a9 (.now ⟨rfl,.normal,a',hq,rfl⟩)
 |exit id=>
  obtain⟨k1,h1,rfl⟩:=he;exact .now ⟨rfl,.exit id,a',hq,k1,h1.trans (by simp[exitTo]),rfl⟩
 |ret=>obtain⟨k1,rfl⟩:=he;exact .now ⟨rfl,.ret,a',hq,k1,rfl⟩
 |_=>exact he.elim
end
variable[ak]
variable{fk:Fk}{P:Program}{K:Exit→St→Prop}{st:St}
theorem Ma{c:Code}(h:aM fk P c st K):aM fk P (.scope c) st K:=fun B w0 a w m hs=>L9 (h B w0 a w m hs)
theorem Mb{l:Nat}(h:K .normal st):aM fk P (.label l) st K:=fun _ _ _ _ m hs=>FO ⟨st,m,h,hs⟩
end Go.Fi
