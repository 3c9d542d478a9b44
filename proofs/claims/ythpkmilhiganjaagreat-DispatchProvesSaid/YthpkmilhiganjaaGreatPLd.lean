/- Lemmas. -/
import Derived.Test.YthpkmilhiganjaaGreatPLc
set_option linter.unusedSimpArgs false
set_option linter.unusedVariables false
set_option linter.unusedSectionVars false
set_option maxHeartbeats 32000000
set_option maxRecDepth 100000
namespace Go.Fi
open Go Go.RowKit
variable[ah]
variable{fk:Fk}
@[congr] theorem Nb{P:Program}{c:Code}{st st':St}{K:Exit→St→Prop}(h:st=st'):aG fk P c st K=aG fk P c st' K:=by rw[h]
@[congr] theorem Nc{P:Program}{ops:Array Oper}{nt:Nat}{os:List Oper}{e e':Env}{h h':ab}{n n':Nat}{K:Env→ab→Nat→Prop}(h1:e=e')(h2:h=h')(h3:n=n'):aQ P ops nt os e h n K=aQ P ops nt os e' h' n' K:=by rw[h1,h2,h3]
@[congr] theorem Nd{P:Program}{ops:Array Oper}{nt:Nat}{os:List Oper}{e e':Env}{h h':ab}{n n':Nat}{K:Env→ab→Nat→Prop}(h1:e=e')(h2:h=h')(h3:n=n'):cq P ops nt os e h n K=cq P ops nt os e' h' n' K:=by rw[h1,h2,h3]
@[congr] theorem Nf{P:Program}{env env':Env}{h h':ab}{n n':Nat}{op:Op}{K:AV→ab→Nat→Prop}(h1:env=env')(h2:h=h')(h3:n=n'):aN P env h n op K=aN P env' h' n' op K:=by rw[h1,h2,h3]
@[congr] theorem Ng{P:Program}{env env':Env}{h h':ab}{n n':Nat}{op:Op}{K:AV→List (List AV)→Prop}(h1:env=env')(h2:h=h')(h3:n=n'):aL P env h n op K=aL P env' h' n' op K:=by rw[h1,h2,h3]
@[congr] theorem Nh{P:Program}{g:FuncId}{args args':List PV}{K:PV→Bool→Prop}{K2:List (List AV)→AV→Prop}{mk:Mark (K,K2)}(h:args=args'):CW P g args K K2 mk=CW P g args' K K2 mk:=by rw[h]
def aW(r:Option (Prop×AV×List (List AV)))(K:AV→List (List AV)→Prop)(_:Mark K):Prop:=
 match r with
 |some (c,v,E)=>c∧K v E
 |none=>False
section
omit [ah]
@[congr] theorem Ni{r r':Option (Prop×AV×List (List AV))}{K:AV→List (List AV)→Prop}{mk:Mark K}(h:r=r'):aW r K mk=aW r' K mk:=by rw[h]
@[simp] theorem Nj(c:Prop)(v:AV)(E:List (List AV))(K:AV→List (List AV)→Prop)(mk:Mark K):aW (some (c,v,E)) K mk=(c∧K v E):=rfl
@[simp] theorem Nk(K:AV→List (List AV)→Prop)(mk:Mark K):aW none K mk=False:=rfl
end
section
variable{P:Program}{ops:Array Oper}{nt:Nat}{env:Env}{h:ab}{n:Nat}
@[simp ↓] theorem Nl(K:Env→ab→Nat→Prop):aQ P ops nt [] env h n K=K env h n:=rfl
@[simp ↓] theorem Nm(K:Env→ab→Nat→Prop):cq P ops nt [] env h n K=K env h n:=rfl
section
omit [ah]
@[simp] theorem No(d:Nat):dOk nt (some d)=(d<nt):=rfl
@[simp] theorem Np:dOk nt none=True:=rfl
@[simp] theorem Nq(d:Nat)(v:AV):put env (some d) v=(d,v)::env:=rfl
@[simp] theorem Nr(v:AV):put env none v=env:=rfl
@[simp] theorem Ns:aM h n []=h:=rfl
@[simp] theorem Nt(c:List AV):aM h n [c]=(n,c)::h:=rfl
@[simp] theorem Nu(t:Nat):get [] t=.w false false .undef:=rfl
@[simp] theorem Nv(k t:Nat)(v:AV):get ((k,v)::env) t=if k=t then v else get env t:=rfl
@[simp] theorem Nx(k t:Nat)(v:List AV):aK ((k,v)::h) t=if k=t then some v else aK h t:=rfl
@[simp] theorem Ny(t:Nat):aK [] t=none:=rfl
@[simp] theorem Nz(k t:Nat)(v x:List AV):a7 ((k,v)::h) t x=if k=t then (k,x)::h else (k,v)::a7 h t x:=rfl
@[simp] theorem NA(t:Nat):ev env (.tmp t)=get env t:=rfl
@[simp] theorem NB(v:Value):ev env (.const v)=cst v:=rfl
@[simp] theorem NC(f:FuncId):ev env (.func f)=.fn f []:=rfl
end
attribute [simp] cst gK
@[simp ↓] theorem NF(dst:Option Tmp)(op:Op)(ty:TypeId)(pos:String)(after:Array Edge)(os:List Oper)(K:Env→ab→Nat→Prop):aQ P ops nt (⟨dst,op,ty,pos,after,none⟩::os) env h n K=(dOk nt dst∧aN P env h n op fun v h' n'=>aQ P ops nt os (put env dst v) h' n' K):=by
 simp[aQ,cg]
@[simp ↓] theorem NG(dst:Option Tmp)(op:Op)(ty:TypeId)(pos:String)(after:Array Edge)(os:List Oper)(K:Env→ab→Nat→Prop):cq P ops nt (⟨dst,op,ty,pos,after,none⟩::os) env h n K=(dOk nt dst∧aL P env h n op fun v E=>cq P ops nt os (put env dst v) (aM h n E) (n+E.length) K):=by
 simp[cq,cg]
def gW(g:Option Bool)(X Y:Prop):Prop:=
 match g with
 |some b=>(b=true→X)∧(b=false→Y)
 |none=>False
section
omit [ah]
@[congr] theorem NH{g g':Option Bool}{X Y:Prop}(h:g=g'):gW g X Y=gW g' X Y:=by rw[h]
@[simp] theorem uL(X Y:Prop):gW (some true) X Y=X:=by simp[gW]
@[simp] theorem uM(X Y:Prop):gW (some false) X Y=Y:=by simp[gW]
end
def nZ(v:AV)(want:Bool):Option Bool:=
 match v with
 |.w _ _ (.bool b)=>some (b==want)
 |.tup []=>some false
 |_=>none
omit [ah] in
@[simp] theorem NI(o f b want:Bool):nZ (.w o f (.bool b)) want=some (b==want):=rfl
omit [ah] in
@[simp] theorem NJ(want:Bool):nZ (.tup []) want=some false:=rfl
def gOf(ops:Array Oper)(env:Env)(j:Nat)(want:Bool):Option Bool:=
 match bj ops j with
 |none=>some false
 |some t=>nZ (get env t) want
omit [ah] in
theorem uN(dst:Option Tmp)(op:Op)(ty:TypeId)(pos:String)(after:Array Edge)(j:Nat)(want:Bool):cg ops env ⟨dst,op,ty,pos,after,some (j,want)⟩=gOf ops env j want:=by
 unfold cg gOf bj;dsimp only
 cases (ops[j]?).bind (·.dst)<;>rfl
theorem G2(dst:Option Tmp)(op:Op)(ty:TypeId)(pos:String)(after:Array Edge)(j:Nat)(want:Bool)(os:List Oper)(K:Env→ab→Nat→Prop):aQ P ops nt (⟨dst,op,ty,pos,after,some (j,want)⟩::os) env h n K=(dOk nt dst∧gW (gOf ops env j want) (aN P env h n op fun v h' n'=>aQ P ops nt os (put env dst v) h' n' K) (aQ P ops nt os (put env dst (.tup [])) h n K)):=by
 conv=>lhs;unfold aQ
 rw[uN]
 cases gOf ops env j want<;>simp[gW]
theorem G3(dst:Option Tmp)(op:Op)(ty:TypeId)(pos:String)(after:Array Edge)(j:Nat)(want:Bool)(os:List Oper)(K:Env→ab→Nat→Prop):cq P ops nt (⟨dst,op,ty,pos,after,some (j,want)⟩::os) env h n K=(dOk nt dst∧gW (gOf ops env j want) (aL P env h n op fun v E=>cq P ops nt os (put env dst v) (aM h n E) (n+E.length) K) (cq P ops nt os (put env dst (.tup [])) h n K)):=by
 conv=>lhs;unfold cq
 rw[uN]
 cases gOf ops env j want<;>simp[gW]
def gM(g:Option Bool)(X Y:Prop)(_:Mark (X,Y)):Prop:=gW g X Y
omit [ah] in
@[congr] theorem NL{g g':Option Bool}{X Y:Prop}{mk:Mark (X,Y)}(h:g=g'):gM g X Y mk=gM g' X Y mk:=by rw[h]
def gE(g:Option Bool)(P:Program)(env:Env)(h:ab)(n:Nat)(op:Op)(K:AV→ab→Nat→Prop)(_:Mark K):Prop:=gW g (aN P env h n op K) (K (.tup []) h n)
def gQ(g:Option Bool)(P:Program)(env:Env)(h:ab)(n:Nat)(op:Op)(K:AV→List (List AV)→Prop)(_:Mark K):Prop:=gW g (aL P env h n op K) (K (.tup []) [])
@[congr] theorem NM{g g':Option Bool}{P:Program}{env env':Env}{h h':ab}{n n':Nat}{op:Op}{K:AV→ab→Nat→Prop}{mk:Mark K}(e1:g=g')(e2:env=env')(e3:h=h')(e4:n=n'):gE g P env h n op K mk=gE g' P env' h' n' op K mk:=by rw[e1,e2,e3,e4]
@[congr] theorem NN{g g':Option Bool}{P:Program}{env env':Env}{h h':ab}{n n':Nat}{op:Op}{K:AV→List (List AV)→Prop}{mk:Mark K}(e1:g=g')(e2:env=env')(e3:h=h')(e4:n=n'):gQ g P env h n op K mk=gQ g' P env' h' n' op K mk:=by rw[e1,e2,e3,e4]
section
variable{op:Op}{K:AV→ab→Nat→Prop}{mk:Mark K}{Kq:AV→List (List AV)→Prop}{mkq:Mark Kq}{b:Bool}{p:Prop}[Decidable p]
@[simp] theorem NO:gE (some true) P env h n op K mk=aN P env h n op K:=by unfold gE;exact uL _ _
@[simp] theorem NQ:gE (some false) P env h n op K mk=K (.tup []) h n:=by unfold gE;exact uM _ _
@[simp] theorem NR:gQ (some true) P env h n op Kq mkq=aL P env h n op Kq:=by unfold gQ;exact uL _ _
@[simp] theorem NS:gQ (some false) P env h n op Kq mkq=Kq (.tup []) []:=by unfold gQ;exact uM _ _
theorem zK(hx:b=true→aN P env h n op K)(hy:b=false→K (.tup []) h n):gE (some b) P env h n op K mk:=⟨hx,hy⟩
theorem zL(hx:b=false→aN P env h n op K)(hy:b=true→K (.tup []) h n):gE (some (!b)) P env h n op K mk:=⟨fun h=>hx (by simpa using h),fun h=>hy (by simpa using h)⟩
theorem G4(hx:p→aN P env h n op K)(hy:¬p→K (.tup []) h n):gE (some (decide p)) P env h n op K mk:=⟨fun h=>hx (by simpa using h),fun h=>hy (by simpa using h)⟩
theorem G5(hx:¬p→aN P env h n op K)(hy:p→K (.tup []) h n):gE (some (!decide p)) P env h n op K mk:=⟨fun h=>hx (by simpa using h),fun h=>hy (by simpa using h)⟩
end
section
variable{dst:Option Tmp}{op:Op}{ty:TypeId}{pos:String}{after:Array Edge}{j:Nat}{want:Bool}{os:List Oper}
@[simp ↓] theorem NT{K:Env→ab→Nat→Prop}:aQ P ops nt (⟨dst,op,ty,pos,after,some (j,want)⟩::os) env h n K=(dOk nt dst∧gE (gOf ops env j want) P env h n op (fun v h' n'=>aQ P ops nt os (put env dst v) h' n' K) .it):=G2 ..
@[simp ↓] theorem NU{K:Env→ab→Nat→Prop}:cq P ops nt (⟨dst,op,ty,pos,after,some (j,want)⟩::os) env h n K=(dOk nt dst∧gQ (gOf ops env j want) P env h n op (fun v E=>cq P ops nt os (put env dst v) (aM h n E) (n+E.length) K) .it):=G3 ..
end
def ic:List Oper→Nat→Option Tmp
 |[],_=>none
 |o::_,0=>o.dst
 |_::r,k+1=>ic r k
omit [ah] in
@[simp] theorem NV(o:Oper)(r:List Oper):ic (o::r) 0=o.dst:=by rw[ic]
omit [ah] in
@[simp] theorem NW(o:Oper)(r:List Oper)(k:Nat):ic (o::r) (k+1)=ic r k:=by rw[ic]
def gV(env:Env)(d:Option Tmp)(want:Bool):Option Bool:=
 match d with
 |none=>some false
 |some t=>nZ (get env t) want
section
omit [ah]
@[simp] theorem NX(t:Tmp)(want:Bool):gV env (some t) want=nZ (get env t) want:=rfl
theorem zM:∀(l:List Oper)(j:Nat),ic l j=(l[j]?).bind (·.dst)
 |[],j=>by simp[ic]
 |o::r,0=>rfl
 |o::r,j+1=>by simp only[ic,List.getElem?_cons_succ];exact zM r j
@[simp] theorem NY(l:List Oper)(j:Nat)(want:Bool):gOf l.toArray env j want=gV env (ic l j) want:=by
 unfold gOf bj gV;rw[List.getElem?_toArray,zM]
 cases (l[j]?).bind (·.dst)<;>rfl
end
@[simp ↓] theorem NZ(x:Operand)(K:AV→ab→Nat→Prop):aN P env h n (.move x) K=K (ev env x) h n:=by simp[aN,aL,aOp]
@[simp ↓] theorem N1(x:Operand)(K:AV→ab→Nat→Prop):aN P env h n (.assign x) K=K (ev env x) h n:=by simp[aN,aL,aOp]
@[simp ↓] theorem N3(x:Operand)(K:AV→List (List AV)→Prop):aL P env h n (.move x) K=K (ev env x) []:=by simp[aL,aOp]
@[simp ↓] theorem N4(x:Operand)(K:AV→List (List AV)→Prop):aL P env h n (.assign x) K=K (ev env x) []:=by simp[aL,aOp]
end
def wu(h:ab)(ty:Option (Nat×Bool))(ad x:AV):Option (Prop×ab):=
 match ty,ad with
 |some (sz,_),.ptr id ver off=>
  match aK h id with
  |some cells=>some ((cells.length=ver∧x.ok=true∧x.cells.length=sz∧off+sz≤cells.length∧bB x.cells=true),a7 h id (setAt cells off x.cells))
  |none=>none
 |_,_=>none
def wv(P:Program)(h:ab)(n:Nat)(t tx:TypeId)(s x:AV):Option (Prop×AV×ab×Nat):=
 match slE P t,slE P tx with
 |some (e,sz),some _=>
  match byE P e,bM P e,dA h sz x with
  |some by_,some z,some (k2,news,c)=>
   match s with
   |.msl id ver z' off k=>
    match aK h id with
    |some cells=>some ((c∧off=0∧cells.length=ver∧z'=sz∧z.length=sz∧0<sz∧k*sz≤ver∧k+k2≤1000000000∧by_≤100000∧bB news=true),
      .msl id (dB cells (k*sz) news).length sz 0 (k+k2),a7 h id (dB cells (k*sz) news),n)
    |none=>none
   |.w own true (.sl k cells)=>
    bif own&&decide (k=0)&&cells.isEmpty then some ((c∧0<k2∧z.length=sz∧0<sz∧k2≤1000000000∧by_≤100000),.msl n news.length sz 0 k2,(n,news)::h,n+1)
    else match pvs news with
     |some q=>some ((c∧cells.length=k*sz∧z.length=sz∧0<sz∧k+k2≤1000000000∧by_≤100000),.w (fJ q&&(own || cells.isEmpty)) false (.sl (k+k2) (cells++q)),h,n)
     |none=>none
   |_=>none
  |_,_,_=>none
 |_,_=>none
def wx(P:Program)(h:ab)(n:Nat)(args:List AV)(tys:List TypeId):Option (Prop×AV×ab×Nat):=
 match args,tys with
 |[s,x],[t,tx]=>wv P h n t tx s x
 |_,_=>none
def sM(r:Option (Prop×ab))(n:Nat)(K:AV→ab→Nat→Prop)(_:Mark K):Prop:=
 match r with
 |some (c,h')=>c∧K (.tup []) h' n
 |none=>False
def pM(r:Option (Prop×AV×ab×Nat))(K:AV→ab→Nat→Prop)(_:Mark K):Prop:=
 match r with
 |some (c,v,h',n')=>c∧K v h' n'
 |none=>False
section
omit [ah]
@[congr] theorem N5{r r':Option (Prop×ab)}{n n':Nat}{K:AV→ab→Nat→Prop}{mk:Mark K}(h:r=r')(h2:n=n'):sM r n K mk=sM r' n' K mk:=by rw[h,h2]
@[congr] theorem N6{r r':Option (Prop×AV×ab×Nat)}{K:AV→ab→Nat→Prop}{mk:Mark K}(h:r=r'):pM r K mk=pM r' K mk:=by rw[h]
@[simp] theorem N7(c:Prop)(h':ab)(n:Nat)(K:AV→ab→Nat→Prop)(mk:Mark K):sM (some (c,h')) n K mk=(c∧K (.tup []) h' n):=rfl
@[simp] theorem N8(c:Prop)(v:AV)(h':ab)(n':Nat)(K:AV→ab→Nat→Prop)(mk:Mark K):pM (some (c,v,h',n')) K mk=(c∧K v h' n'):=rfl
end
@[simp ↓] theorem N9{P:Program}{env:Env}{h:ab}{n:Nat}(t:TypeId)(ad x:Operand)(K:AV→ab→Nat→Prop):aN P env h n (.store t ad x) K=sM (wu h (tyL P t) (ev env ad) (ev env x)) n K .it:=by
 show iO P env h n t ad x K=_;unfold iO wu
 cases tyL P t with
 |none=>cases ev env ad<;>rfl
 |some y=>
  obtain⟨sz,g⟩:=y
  cases ev env ad with
  |ptr id ver off=>dsimp only;cases aK h id<;>rfl
  |_=>rfl
@[simp ↓] theorem Oa{P:Program}{env:Env}{h:ab}{n:Nat}(args:Array Operand)(tys:Array TypeId)(K:AV→ab→Nat→Prop):aN P env h n (.call ⟨.builtin .append,args,tys⟩) K=pM (wx P h n (args.toList.map (ev env)) tys.toList) K .it:=by
 show iN P env h n args.toList tys.toList K=_;generalize args.toList=la;generalize tys.toList=lt;unfold iN wx
 match la,lt with
 |[s,x],[t,tx]=>
  simp only[List.map];unfold wv
  cases slE P t with
  |none=>rfl
  |some y=>
   obtain⟨e,sz⟩:=y
   cases slE P tx with
   |none=>rfl
   |some y2=>
    dsimp only
    cases byE P e with
    |none=>rfl
    |some by_=>
     cases bM P e with
     |none=>rfl
     |some z=>
      cases dA h sz (ev env x) with
      |none=>rfl
      |some y3=>
       obtain⟨k2,news,c⟩:=y3;dsimp only
       cases ev env s with
       |msl id ver z' off k=>dsimp only;cases aK h id<;>rfl
       |w own f p=>
        cases f with
        |false=>rfl
        |true=>
         cases p with
         |sl k cells=>
          dsimp only
          cases (own&&decide (k=0)&&cells.isEmpty) with
          |true=>rfl
          |false=>simp only[cond_false];cases pvs news<;>rfl
         |_=>rfl
       |_=>rfl
 |[],_=>simp[pM]
 |[_],_=>simp[pM]
 |_::_::_::_,_=>simp[pM]
 |[_,_],[]=>simp[pM]
 |[_,_],[_]=>simp[pM]
 |[_,_],_::_::_::_=>simp[pM]
@[simp ↓] theorem Ob{P:Program}{env:Env}{h:ab}{n:Nat}(args:Array Operand)(tys:Array TypeId)(K:AV→ab→Nat→Prop):aN P env h n (.call ⟨.builtin .copy,args,tys⟩) K=pM ((lV P h (args.toList.map (ev env)) tys.toList).map fun y=>(y.1,y.2.1,y.2.2,n)) K .it:=by
 show iP P env h n args.toList tys.toList K=_;unfold iP
 cases lV P h (args.toList.map (ev env)) tys.toList with
 |none=>rfl
 |some y=>rfl
attribute [simp] lV jH shr
def eK(h:ab)(n:Nat)(K:AV→ab→Nat→Prop):AV→List (List AV)→Prop:=fun v E=>K v (aM h n E) (n+E.length)
omit [ah] in
@[simp ↓] theorem Oc(h:ab)(n:Nat)(K:AV→ab→Nat→Prop)(v:AV):eK h n K v []=K v h n:=by unfold eK;rfl
omit [ah] in
@[simp ↓] theorem Od(h:ab)(n:Nat)(K:AV→ab→Nat→Prop)(v:AV)(c:List AV):eK h n K v [c]=K v ((n,c)::h) (n+1):=by unfold eK;rfl
section
variable{P:Program}{env:Env}{h:ab}{n:Nat}(K:AV→ab→Nat→Prop)(Kq:AV→List (List AV)→Prop)
def gdV(b:Bool)(v:AV):AV:=bif b then v else .tup []
omit [ah] in
@[simp] theorem G6(v:AV):gdV true v=v:=rfl
omit [ah] in
@[simp] theorem G7(v:AV):gdV false v=.tup []:=rfl
def pkW(c x y:AV)(K:AV→List (List AV)→Prop)(_:Mark K):Prop:=
 match c with
 |.w _ _ (.bool t)=>
  match x,y with
  |.w _ _ (.bool a),.w _ _ (.bool b)=>K (.w false false (.bool (bif t then a else b))) []
  |x,y=>K (bif t then x else y) []
 |_=>False
omit [ah] in
@[congr] theorem Oe{c c' x x' y y':AV}{K:AV→List (List AV)→Prop}{mk:Mark K}(h1:c=c')(h2:x=x')(h3:y=y'):pkW c x y K mk=pkW c' x' y' K mk:=by rw[h1,h2,h3]
section
variable{K:AV→List (List AV)→Prop}{mk:Mark K}
section
omit [ah]
@[simp] theorem Of(o f t o1 f1 a o2 f2 b:Bool):pkW (.w o f (.bool t)) (.w o1 f1 (.bool a)) (.w o2 f2 (.bool b)) K mk=K (.w false false (.bool (bif t then a else b))) []:=rfl
@[simp] theorem Og(o f c g a o2 f2 b:Bool)(hg:(!c)=g):pkW (.w o f (.bool c)) (.w false false (.bool a)) (gdV g (.w o2 f2 (.bool b))) K mk=K (.w false false (.bool (bif c then a else b))) []:=by
 subst hg;cases c<;>rfl
@[simp] theorem Oh(o f t:Bool)(l:List AV)(y:AV):pkW (.w o f (.bool t)) (.tup l) y K mk=K (bif t then .tup l else y) []:=rfl
@[simp] theorem Oi(o f t:Bool)(l:List AV)(x:AV):pkW (.w o f (.bool t)) x (.tup l) K mk=K (bif t then x else .tup l) []:=by
 unfold pkW;simp only
end
@[simp ↓] theorem G8(c x y:Operand):aL P env h n (.pick c x y) K=pkW (ev env c) (ev env x) (ev env y) K .it:=by
 simp only[aL,aOp,pkW];generalize ev env c=cv;generalize ev env x=xv;generalize ev env y=yv
 cases cv with
 |w o f v=>
  cases v with
  |bool t=>
   simp only;split
   ·rename_i e1;split at e1<;>(injection e1 with e1;injection e1 with e1 e;injection e with e2 e3;subst e1;subst e2;subst e3;simp)
   ·rename_i e1;split at e1<;>cases e1
  |_=>rfl
 |_=>rfl
@[simp ↓] theorem Oj(c x y:Operand)(K:AV→ab→Nat→Prop):aN P env h n (.pick c x y) K=pkW (ev env c) (ev env x) (ev env y) (eK h n K) .it:=by
 rw[←G8];rfl
end
@[simp ↓] theorem Ok(t:TypeId):aN P env h n (.alloc t) K=aW (aOp P h n (ev env) (.alloc t)) (eK h n K) .it:=rfl
@[simp ↓] theorem Ol(t:TypeId):aL P env h n (.alloc t) Kq=aW (aOp P h n (ev env) (.alloc t)) Kq .it:=rfl
@[simp ↓] theorem Vb(t:TypeId)(x:Operand):aN P env h n (.box t x) K=aW (aOp P h n (ev env) (.box t x)) (eK h n K) .it:=rfl
@[simp ↓] theorem Vd(t:TypeId)(x:Operand):aL P env h n (.box t x) Kq=aW (aOp P h n (ev env) (.box t x)) Kq .it:=rfl
@[simp ↓] theorem Om(t:TypeId)(ps:Array (Nat×Operand)):aN P env h n (.build t ps) K=aW (aOp P h n (ev env) (.build t ps)) (eK h n K) .it:=rfl
@[simp ↓] theorem On(t:TypeId)(ps:Array (Nat×Operand)):aL P env h n (.build t ps) Kq=aW (aOp P h n (ev env) (.build t ps)) Kq .it:=rfl
@[simp ↓] theorem Oo(t:TypeId)(l:Nat)(ps:Array (Nat×Operand)):aN P env h n (.buildSlice t l ps) K=aW (aOp P h n (ev env) (.buildSlice t l ps)) (eK h n K) .it:=rfl
@[simp ↓] theorem Oq(t:TypeId)(l:Nat)(ps:Array (Nat×Operand)):aL P env h n (.buildSlice t l ps) Kq=aW (aOp P h n (ev env) (.buildSlice t l ps)) Kq .it:=rfl
@[simp ↓] theorem Ot(t:TypeId)(x:Operand):aN P env h n (.load t x) K=aW (aOp P h n (ev env) (.load t x)) (eK h n K) .it:=rfl
@[simp ↓] theorem Ou(t:TypeId)(x:Operand):aL P env h n (.load t x) Kq=aW (aOp P h n (ev env) (.load t x)) Kq .it:=rfl
@[simp ↓] theorem Ov(x:Operand):aN P env h n (.nilCheck x) K=aW (aOp P h n (ev env) (.nilCheck x)) (eK h n K) .it:=rfl
@[simp ↓] theorem Ow(x:Operand):aL P env h n (.nilCheck x) Kq=aW (aOp P h n (ev env) (.nilCheck x)) Kq .it:=rfl
@[simp ↓] theorem Ox(op:BinOp)(t:TypeId)(x y:Operand)(yt:TypeId):aN P env h n (.binOp op t x y yt) K=aW (aOp P h n (ev env) (.binOp op t x y yt)) (eK h n K) .it:=rfl
@[simp ↓] theorem Oy(op:BinOp)(t:TypeId)(x y:Operand)(yt:TypeId):aL P env h n (.binOp op t x y yt) Kq=aW (aOp P h n (ev env) (.binOp op t x y yt)) Kq .it:=rfl
@[simp ↓] theorem Oz(op:UnOp)(t:TypeId)(x:Operand):aN P env h n (.unOp op t x) K=aW (aOp P h n (ev env) (.unOp op t x)) (eK h n K) .it:=rfl
@[simp ↓] theorem OA(op:UnOp)(t:TypeId)(x:Operand):aL P env h n (.unOp op t x) Kq=aW (aOp P h n (ev env) (.unOp op t x)) Kq .it:=rfl
def cvW(P:Program)(env:Env)(h:ab)(n:Nat)(src dst:TypeId)(x:Operand)(v:AV)(K:AV→ab→Nat→Prop)(_:Mark K):Prop:=
 match v with
 |.w _ _ (.str s)=>lX P src dst=true∧K (.w true false (.sl s.size (gi s))) h n
 |_=>aL P env h n (.convert src dst x) fun v E=>K v (aM h n E) (n+E.length)
@[congr] theorem OB{P:Program}{env:Env}{h:ab}{n:Nat}{src dst:TypeId}{x:Operand}{v v':AV}{K:AV→ab→Nat→Prop}{mk:Mark K}(e:v=v'):cvW P env h n src dst x v K mk=cvW P env h n src dst x v' K mk:=by rw[e]
@[simp] theorem OC(src dst:TypeId)(x:Operand)(o f:Bool)(s:ByteArray)(K:AV→ab→Nat→Prop)(mk:Mark K):cvW P env h n src dst x (.w o f (.str s)) K mk=(lX P src dst=true∧K (.w true false (.sl s.size (gi s))) h n):=rfl
@[simp] theorem OE(src dst:TypeId)(x:Operand)(o f:Bool)(k:IntKind)(a:Int)(K:AV→ab→Nat→Prop)(mk:Mark K):cvW P env h n src dst x (.w o f (.int k a)) K mk=aW (aOp P h n (ev env) (.convert src dst x)) (eK h n K) .it:=rfl
omit [ah] in
@[simp] theorem OF(s:ByteArray):(gi s).length=s.size:=by simp[gi]
@[simp ↓] theorem OG(s d:TypeId)(x:Operand):aN P env h n (.convert s d x) K=cvW P env h n s d x (ev env x) K .it:=rfl
@[simp ↓] theorem OH(s d:TypeId)(x:Operand):aL P env h n (.convert s d x) Kq=aW (aOp P h n (ev env) (.convert s d x)) Kq .it:=rfl
@[simp ↓] theorem OI(t:TypeId)(x:Operand):aN P env h n (.makeInterface t x) K=aW (aOp P h n (ev env) (.makeInterface t x)) (eK h n K) .it:=rfl
@[simp ↓] theorem OJ(t:TypeId)(x:Operand):aL P env h n (.makeInterface t x) Kq=aW (aOp P h n (ev env) (.makeInterface t x)) Kq .it:=rfl
@[simp ↓] theorem OK(f:Fn)(a b:Array Operand):aN P env h n (.makeFunc f a b) K=aW (aOp P h n (ev env) (.makeFunc f a b)) (eK h n K) .it:=rfl
@[simp ↓] theorem OL(f:Fn)(a b:Array Operand):aL P env h n (.makeFunc f a b) Kq=aW (aOp P h n (ev env) (.makeFunc f a b)) Kq .it:=rfl
@[simp ↓] theorem OM(t:TypeId)(x y:Operand):aN P env h n (.makeSlice t x y) K=aW (aOp P h n (ev env) (.makeSlice t x y)) (eK h n K) .it:=rfl
@[simp ↓] theorem ON(t:TypeId)(x y:Operand):aL P env h n (.makeSlice t x y) Kq=aW (aOp P h n (ev env) (.makeSlice t x y)) Kq .it:=rfl
@[simp ↓] theorem OO(t:TypeId)(x:Operand)(l u m:Option Operand):aN P env h n (.slice t x l u m) K=aW (aOp P h n (ev env) (.slice t x l u m)) (eK h n K) .it:=rfl
@[simp ↓] theorem OP(t:TypeId)(x:Operand)(l u m:Option Operand):aL P env h n (.slice t x l u m) Kq=aW (aOp P h n (ev env) (.slice t x l u m)) Kq .it:=rfl
@[simp ↓] theorem OQ(t:TypeId)(x:Operand)(f:Nat):aN P env h n (.fieldAddr t x f) K=aW (aOp P h n (ev env) (.fieldAddr t x f)) (eK h n K) .it:=rfl
@[simp ↓] theorem OR(t:TypeId)(x:Operand)(f:Nat):aL P env h n (.fieldAddr t x f) Kq=aW (aOp P h n (ev env) (.fieldAddr t x f)) Kq .it:=rfl
@[simp ↓] theorem OS(t:TypeId)(x:Operand)(f:Nat):aN P env h n (.field t x f) K=aW (aOp P h n (ev env) (.field t x f)) (eK h n K) .it:=rfl
@[simp ↓] theorem OT(t:TypeId)(x:Operand)(f:Nat):aL P env h n (.field t x f) Kq=aW (aOp P h n (ev env) (.field t x f)) Kq .it:=rfl
@[simp ↓] theorem OU(t:TypeId)(x i:Operand):aN P env h n (.indexAddr t x i) K=aW (aOp P h n (ev env) (.indexAddr t x i)) (eK h n K) .it:=rfl
@[simp ↓] theorem OV(t:TypeId)(x i:Operand):aL P env h n (.indexAddr t x i) Kq=aW (aOp P h n (ev env) (.indexAddr t x i)) Kq .it:=rfl
@[simp ↓] theorem OW(t:TypeId)(x i:Operand):aN P env h n (.index t x i) K=aW (aOp P h n (ev env) (.index t x i)) (eK h n K) .it:=rfl
@[simp ↓] theorem OX(t:TypeId)(x i:Operand):aL P env h n (.index t x i) Kq=aW (aOp P h n (ev env) (.index t x i)) Kq .it:=rfl
@[simp ↓] theorem OY(x:Operand)(i:Nat):aN P env h n (.extract x i) K=aW (aOp P h n (ev env) (.extract x i)) (eK h n K) .it:=rfl
@[simp ↓] theorem OZ(x:Operand)(i:Nat):aL P env h n (.extract x i) Kq=aW (aOp P h n (ev env) (.extract x i)) Kq .it:=rfl
@[simp ↓] theorem Ve(a:Array Operand)(t:Array TypeId):aN P env h n (.call ⟨.builtin .len,a,t⟩) K=aW (aOp P h n (ev env) (.call ⟨.builtin .len,a,t⟩)) (eK h n K) .it:=rfl
@[simp ↓] theorem Vf(a:Array Operand)(t:Array TypeId):aL P env h n (.call ⟨.builtin .len,a,t⟩) Kq=aW (aOp P h n (ev env) (.call ⟨.builtin .len,a,t⟩)) Kq .it:=rfl
@[simp ↓] theorem Vg(a:Array Operand)(t:Array TypeId):aN P env h n (.call ⟨.builtin .max,a,t⟩) K=aW (aOp P h n (ev env) (.call ⟨.builtin .max,a,t⟩)) (eK h n K) .it:=rfl
@[simp ↓] theorem Vh(a:Array Operand)(t:Array TypeId):aL P env h n (.call ⟨.builtin .max,a,t⟩) Kq=aW (aOp P h n (ev env) (.call ⟨.builtin .max,a,t⟩)) Kq .it:=rfl
@[simp ↓] theorem Vi(a:Array Operand)(t:Array TypeId):aN P env h n (.call ⟨.builtin .min,a,t⟩) K=aW (aOp P h n (ev env) (.call ⟨.builtin .min,a,t⟩)) (eK h n K) .it:=rfl
@[simp ↓] theorem Vj(a:Array Operand)(t:Array TypeId):aL P env h n (.call ⟨.builtin .min,a,t⟩) Kq=aW (aOp P h n (ev env) (.call ⟨.builtin .min,a,t⟩)) Kq .it:=rfl
@[simp ↓] theorem O0(a:Array Operand)(t:Array TypeId):aL P env h n (.call ⟨.builtin .append,a,t⟩) Kq=aW (aOp P h n (ev env) (.call ⟨.builtin .append,a,t⟩)) Kq .it:=rfl
def cW(P:Program)(h:ab)(n:Nat)(f:Option (FuncId×List AV))(args:List AV)(K:AV→List (List AV)→Prop)(_:Mark K):Prop:=
 match f with
 |some (g,av)=>lU P h n g (args++av) K
 |none=>False
@[congr] theorem O3{P:Program}{h h':ab}{n:Nat}{f f':Option (FuncId×List AV)}{args args':List AV}{K:AV→List (List AV)→Prop}{mk:Mark K}(h0:h=h')(h1:f=f')(h2:args=args'):cW P h n f args K mk=cW P h' n f' args' K mk:=by rw[h0,h1,h2]
@[simp ↓] theorem O4(f:Operand)(a:Array Operand)(t:Array TypeId):aN P env h n (.call ⟨.value f,a,t⟩) K=cW P h n (cd (ev env f)) (a.toList.map (ev env)) (eK h n K) .it:=by
 simp only[aN,aL,cW];rfl
@[simp ↓] theorem O5(f:Operand)(a:Array Operand)(t:Array TypeId):aL P env h n (.call ⟨.value f,a,t⟩) Kq=cW P h n (cd (ev env f)) (a.toList.map (ev env)) Kq .it:=by
 simp only[aL,cW];rfl
def fW(P:Program)(n:Nat)(g:FuncId)(a:Option (List PV))(pure:Bool)(K:AV→List (List AV)→Prop)(_:Mark K):Prop:=
 match a with
 |some pvs=>CW P g pvs (fun res fr=>(fr=true∨pure=true)∧K (.w (jG fr res) false res) []) (fun E v=>K (v.sh n) (E.map (AV.sh.shL n))) .it
 |none=>False
@[congr] theorem O6{P:Program}{n:Nat}{g:FuncId}{a a':Option (List PV)}{p p':Bool}{K:AV→List (List AV)→Prop}{mk:Mark K}(h0:a=a')(h1:p=p'):fW P n g a p K mk=fW P n g a' p' K mk:=by rw[h0,h1]
@[simp] theorem O7(g:FuncId)(av args:List AV)(mk:Mark Kq):cW P h n (some (g,av)) args Kq mk=fW P n g (fK h (args++av)) (gP (args++av)) Kq .it:=rfl
@[simp] theorem O8(g:FuncId)(pvs:List PV)(p:Bool)(mk:Mark Kq):fW P n g (some pvs) p Kq mk=CW P g pvs (fun res fr=>(fr=true∨p=true)∧Kq (.w (jG fr res) false res) []) (fun E v=>Kq (v.sh n) (E.map (AV.sh.shL n))) .it:=rfl
end
theorem cw{P:Program}{g:FuncId}{args:List PV}{K:PV→Bool→Prop}{K2:List (List AV)→AV→Prop}{res:PV}{fr:Bool}{mk:Mark (K,K2)}(h:az P g args res fr)(hk:K res fr):CW P g args K K2 mk:=.inl ⟨res,fr,h,hk⟩
theorem cwM{P:Program}{g:FuncId}{args:List PV}{K:PV→Bool→Prop}{K2:List (List AV)→AV→Prop}{E:List (List AV)}{v:AV}{mk:Mark (K,K2)}(h:kJ P g args E v)(hk:K2 E v):CW P g args K K2 mk:=.inr ⟨E,v,h,hk⟩
section
omit [ah]
@[simp] theorem MH(n:Nat)(o f:Bool)(p:PV):AV.sh n (.w o f p)=.w o f p:=rfl
@[simp] theorem G9(n id v off:Nat):AV.sh n (.ptr id v off)=.ptr (id+n) v off:=rfl
@[simp] theorem Ha(n id v sz off k:Nat):AV.sh n (.msl id v sz off k)=.msl (id+n) v sz off k:=rfl
@[simp] theorem Hb(n:Nat)(cs:List AV):AV.sh n (.agg cs)=.agg (AV.sh.shL n cs):=rfl
@[simp] theorem Hc(n:Nat)(cs:List AV):AV.sh n (.tup cs)=.tup (AV.sh.shL n cs):=rfl
@[simp] theorem O9(n:Nat):AV.sh.shL n []=[]:=rfl
@[simp] theorem Pa(n:Nat)(x:AV)(r:List AV):AV.sh.shL n (x::r)=x.sh n::AV.sh.shL n r:=rfl
end
@[simp ↓] theorem Pb(P:Program)(b:Code)(K:Exit→St→Prop)(s:St):lY fk P b K .normal s=aG fk P b s K:=rfl
@[simp ↓] theorem Pd(P:Program)(b:Code)(K:Exit→St→Prop)(s:St):lY fk P b K .ret s=K .ret s:=rfl
@[simp ↓] theorem Pe(P:Program)(b:Code)(K:Exit→St→Prop)(id:Nat)(s:St):lY fk P b K (.exit id) s=K (.exit id) s:=rfl
section
omit [ah]
@[simp ↓] theorem Pf(i:Nat)(K:Exit→St→Prop)(s:St):dD i K .normal s=K .normal s:=rfl
@[simp ↓] theorem Pg(i:Nat)(K:Exit→St→Prop)(s:St):dD i K .ret s=K .ret s:=rfl
@[simp ↓] theorem Ph(i id:Nat)(K:Exit→St→Prop)(s:St):dD i K (.exit id) s=if id=i then K .normal s else K (.exit id) s:=rfl
@[simp ↓] theorem Pj(P:Program)(rs:List ResultVar)(res:PV)(fr:Bool)(s:St):mA P rs res fr .normal s=jb P rs s res fr:=rfl
@[simp ↓] theorem Pk(P:Program)(rs:List ResultVar)(res:PV)(fr:Bool)(s:St):mA P rs res fr .ret s=jb P rs s res fr:=rfl
end
theorem nx{fk:Fk}{α:Type}{J:α→Prop}{I:α→St}{μ:α→Nat}{x:α}{K:Exit→St→Prop}{s:St}(y:α)(h:J y)(hle:Lek fk s (I y))(hm:μ y<μ x:=by first|omega|(dsimp only;omega)|(simp;omega)):fL fk J I μ x K .normal s:=⟨y,h,hm,hle⟩
section
variable{α:Type}(J:α→Prop)(I:α→St)(μ:α→Nat)(x:α)(K:Exit→St→Prop)
theorem Pl(y:α)(s:St)(h:J y)(hm:μ y<μ x)(hle:Lek fk s (I y)):fL fk J I μ x K .normal s:=⟨y,h,hm,hle⟩
@[simp ↓] theorem Pm(s:St):fL fk J I μ x K .ret s=K .ret s:=rfl
@[simp ↓] theorem Pn(id:Nat)(s:St):fL fk J I μ x K (.exit id) s=K (.exit id) s:=rfl
end
section
variable{β:Type}(id:Nat)(F:β→Prop)(fin:β→St)(R:St→Prop)
@[simp ↓] theorem Po(s:St):vu fk id F fin R .ret s=R s:=rfl
@[congr] theorem Pp{id:Nat}{F:β→Prop}{fin:β→St}{R:St→Prop}{e e':Exit}{s s':St}(h:e=e')(h2:s=s'):vu fk id F fin R e s=vu fk id F fin R e' s':=by rw[h,h2]
end
@[congr] theorem Pq{P:Program}{b:Code}{K:Exit→St→Prop}{e e':Exit}{s s':St}(h:e=e')(h2:s=s'):lY fk P b K e s=lY fk P b K e' s':=by rw[h,h2]
omit [ah] in
@[congr] theorem Pr{i:Nat}{K:Exit→St→Prop}{e e':Exit}{s s':St}(h:e=e')(h2:s=s'):dD i K e s=dD i K e' s':=by rw[h,h2]
@[congr] theorem Ps{α:Type}{J:α→Prop}{I:α→St}{μ:α→Nat}{x:α}{K:Exit→St→Prop}{e e':Exit}{s s':St}(h:e=e')(h2:s=s'):fL fk J I μ x K e s=fL fk J I μ x K e' s':=by rw[h,h2]
omit [ah] in
@[simp] theorem Pt(o f b:Bool)(X Y:Prop):iR (.w o f (.bool b)) X Y=((b=true→X)∧(b=false→Y)):=rfl
omit [ah] in
@[simp] theorem Pu(o f:Bool)(X Y:Prop):iR (.w o f .ez) X Y=(X∧Y):=rfl
def ig(v:AV)(X Y:Prop)(_:Mark (X,Y)):Prop:=iR v X Y
section
omit [ah]
@[congr] theorem Pv{v v':AV}{X Y:Prop}{mk:Mark (X,Y)}(h:v=v'):ig v X Y mk=ig v' X Y mk:=by rw[h]
@[simp] theorem Pw(o f:Bool)(X Y:Prop)(mk:Mark (X,Y)):ig (.w o f (.bool true)) X Y mk=X:=by simp[ig,iR]
@[simp] theorem Px(o f:Bool)(X Y:Prop)(mk:Mark (X,Y)):ig (.w o f (.bool false)) X Y mk=Y:=by simp[ig,iR]
theorem lM{o f b:Bool}{X Y:Prop}{mk:Mark (X,Y)}(hx:b=true→X)(hy:b=false→Y):ig (.w o f (.bool b)) X Y mk:=⟨hx,hy⟩
theorem kC{o f:Bool}{p:Prop}[Decidable p]{X Y:Prop}{mk:Mark (X,Y)}(hx:p→X)(hy:¬p→Y):ig (.w o f (.bool (decide p))) X Y mk:=⟨fun h=>hx (by simpa using h),fun h=>hy (by simpa using h)⟩
theorem gI{o f:Bool}{p:Prop}[Decidable p]{X Y:Prop}{mk:Mark (X,Y)}(hx:¬p→X)(hy:p→Y):ig (.w o f (.bool (!decide p))) X Y mk:=⟨fun h=>hx (by simpa using h),fun h=>hy (by simpa using h)⟩
end
theorem aD{P:Program}{K:Exit→St→Prop}{st:St}{c:Operand}{x y:Code}(h:ig (ev st.env c) (aG fk P x st K) (aG fk P y st K) .it):aG fk P (.cond c x y) st K:=D5 h
omit [ah] in
@[congr] theorem Py{v v':AV}{X Y:Prop}(h:v=v'):iR v X Y=iR v' X Y:=by rw[h]
attribute [simp] vl vk vn iJ aOp bin jD AV.ok AV.one AV.isAgg AV.cells setAt jC eqS eqL kH lov hiv frz fK qL gP isW lT cd dA dB bB fJ jG pvs wu wv wx dW jR eI oneOf jb cD mB mC kW AV.lt AV.lt.ltL nN
section
omit [ah]
@[simp] theorem Pz:flat .undef=true:=rfl
@[simp] theorem PC:flat .ez=true:=rfl
@[simp] theorem PD(b:Bool):flat (.bool b)=true:=rfl
@[simp] theorem PE(k:IntKind)(n:Int):flat (.int k n)=true:=rfl
@[simp] theorem PF(s:ByteArray):flat (.str s)=true:=rfl
@[simp] theorem PG:flat .cJ=true:=rfl
@[simp] theorem PH(n:Nat)(c:List PV):flat (.sl n c)=false:=rfl
@[simp] theorem PM(n:Nat)(c:List PV):flat (.ip c n)=false:=rfl
@[simp] theorem PN(c:List PV):flat (.agg c)=false:=rfl
@[simp] theorem PO(f:FuncId)(c:List PV):flat (.fn f c)=false:=rfl
@[simp] theorem PQ(z:List AV):dz 0 z=[]:=rfl
@[simp] theorem PR(n:Nat)(z:AV):dz n [z]=List.replicate n z:=by
 unfold dz
 induction n with
 |zero=>rfl
 |succ n ih=>rw[List.replicate_succ,List.flatten_cons,ih];rfl
@[simp] theorem PS(x:AV)(l:List AV):kG (x::l) 0=x:=rfl
@[simp] theorem PT(x:AV)(l:List AV)(k:Nat):kG (x::l) (k+1)=kG l k:=rfl
@[simp] theorem PU(x:PV)(l:List PV):bS (x::l) 0=x:=rfl
@[simp] theorem PW(x:PV)(l:List PV)(k:Nat):bS (x::l) (k+1)=bS l k:=rfl
@[simp] theorem uO{α:Type}[Inhabited α](x:α)(l:List α):nth (x::l) 0=x:=rfl
@[simp] theorem uP{α:Type}[Inhabited α](x:α)(l:List α)(k:Nat):nth (x::l) (k+1)=nth l k:=rfl
theorem zN(s:ByteArray):s=ByteArray.empty↔s.size=0:=by
 constructor
 ·rintro rfl;rfl
 ·intro h;obtain⟨⟨l⟩⟩:=s;have:l=[]:=List.eq_nil_of_length_eq_zero h;subst this;rfl
@[simp] theorem PX(s:ByteArray)(k:Nat)(h:k<s.size):bS (gi s) k=.int .u8 (nM s k):=by
 have:k<s.data.toList.length:=by simpa using h
 simp[bS,gi,nM,List.getD_eq_getElem?_getD,List.getElem?_map,List.getElem?_eq_getElem this]
theorem bl{n:Int}(h1:-9000000000000000000≤n)(h2:n≤9000000000000000000):inI .i64 n:=by
 simp only[inI,IntKind.min,IntKind.max,IntKind.signed,IntKind.bits]
 constructor<;>simp<;>omega
end
end Go.Fi
namespace Go.Fi
open Go
theorem nq{α:Type}(f:α→List PV)(s:Nat)(hf:∀x,(f x).length=s):∀l:List α,(l.flatMap f).length=l.length*s
 |[]=>by simp
 |x::l=>by rw[List.flatMap_cons,List.length_append,hf,nq f s hf l,List.length_cons,Nat.add_mul];omega
theorem qm{α:Type}[Inhabited α](f:α→List PV)(s:Nat)(hf:∀x,(f x).length=s):∀(l:List α)(k:Nat),k<l.length→((l.flatMap f).drop (k*s)).take s=f (nth l k)
 |[],k,h=>by simp at h
 |x::l,0,h=>by
  simp only[List.flatMap_cons,Nat.zero_mul,List.drop_zero,uO];rw[List.take_append_of_le_length (by rw[hf];exact Nat.le_refl _),List.take_of_length_le (by rw[hf];exact Nat.le_refl _)]
 |x::l,k+1,h=>by
  simp only[List.flatMap_cons,uP]
  have e:(k+1)*s=s+k*s:=by rw[Nat.add_mul];omega
  have e2:(f x++l.flatMap f).drop s=l.flatMap f:=by
   rw[List.drop_append_of_le_length (by rw[hf];exact Nat.le_refl _),List.drop_of_length_le (by rw[hf];exact Nat.le_refl _),List.nil_append]
  rw[e,←List.drop_drop,e2];exact qm f s hf l k (by simpa using h)
theorem Hd(a b:List PV)(j:Nat)(h:j<a.length):bS (a++b) j=bS a j:=by
 simp[bS,List.getD_eq_getElem?_getD,List.getElem?_append_left h]
theorem He(a b:List PV)(j:Nat):bS (a++b) (a.length+j)=bS b j:=by
 unfold bS;rw[List.getD_eq_getElem?_getD,List.getElem?_append_right (by omega),List.getD_eq_getElem?_getD];congr 2;omega
theorem nu{α:Type}[Inhabited α](f:α→List PV)(s:Nat)(hf:∀x,(f x).length=s):∀(l:List α)(k j:Nat),k<l.length→j<s→bS (l.flatMap f) (k*s+j)=bS (f (nth l k)) j
 |[],k,j,h,_=>by simp at h
 |x::l,0,j,h,hj=>by
  simp only[List.flatMap_cons,Nat.zero_mul,Nat.zero_add,uO];exact Hd _ _ _ (by rw[hf];exact hj)
 |x::l,k+1,j,h,hj=>by
  simp only[List.flatMap_cons,uP]
  have e:(k+1)*s+j=(f x).length+(k*s+j):=by rw[hf,Nat.add_mul];omega
  rw[e,He];exact nu f s hf l k j (by simpa using h) hj
theorem qn{α:Type}[Inhabited α](f:α→PV)(l:List α)(k:Nat)(h:k<l.length):bS (l.map f) k=f (nth l k):=by
 simp[bS,nth,List.getD_eq_getElem?_getD,List.getElem?_map,List.getElem?_eq_getElem h]
end Go.Fi
namespace Go.Fi
open Go Go.RowKit
variable[ah]
variable{fk:Fk}
section
variable{P:Program}{K K':Exit→St→Prop}{st st':St}
theorem bA{id:Nat}{x y:Code}(h:aG fk P (.seq x y) st (dD id K)):aG fk P (.block id (.seq x y)) st K:=cO h
theorem uQ{id i:Nat}{ops:Array Oper}{b:Bool}(h:aG fk P (.region i ops b) st (dD id K)):aG fk P (.block id (.region i ops b)) st K:=cO h
theorem zO{c:Code}(h:aG fk P c st K)(hk:∀e s,K e s→∃s',Lek fk s s'∧K' e s'):aG fk P c st K':=
 fun B w0 a w m hs=>bC (h B w0 a w m hs) (fun e a' w' ⟨st',m',h1,h2⟩=>by
  obtain⟨s',hle,hk'⟩:=hk e st' h1;obtain⟨m'',hs''⟩:=hle B w0 a' w' m' h2
  exact⟨s',m'',hk',hs''⟩)
def kX(fk:Fk){β:Type}(F:β→Prop)(fin:β→St)(s:St):Prop:=∃y,F y∧Lek fk s (fin y)
theorem bY{β:Type}{F:β→Prop}{fin:β→St}{s:St}(y:β)(h:F y)(hle:Lek fk s (fin y)):kX fk F fin s:=⟨y,h,hle⟩
@[congr] theorem Rv{β:Type}{F:β→Prop}{fin:β→St}{s s':St}(h:s=s'):kX fk F fin s=kX fk F fin s':=by rw[h]
def jd(fk:Fk){β:Type}(id:Nat)(F:β→Prop)(fin:β→St)(K:Exit→St→Prop):Exit→St→Prop
 |.exit i,s=>if i=id then kX fk F fin s else K (.exit i) s
 |.normal,_=>False
 |e,s=>K e s
@[simp] theorem Rw{β:Type}(id i:Nat)(F:β→Prop)(fin:β→St)(s:St):jd fk id F fin K (.exit i) s=if i=id then kX fk F fin s else K (.exit i) s:=rfl
@[simp] theorem Rx{β:Type}(id:Nat)(F:β→Prop)(fin:β→St)(s:St):jd fk id F fin K .ret s=K .ret s:=rfl
@[congr] theorem Ry{β:Type}{id:Nat}{F:β→Prop}{fin:β→St}{e e':Exit}{s s':St}(h:e=e')(h2:s=s'):jd fk id F fin K e s=jd fk id F fin K e' s':=by rw[h,h2]
def cG(env:Env):List Nat→Env
 |[]=>[]
 |k::ks=>(k,get env k)::cG env ks
omit [ah] in
@[simp] theorem Rz(env:Env):cG env []=[]:=rfl
omit [ah] in
@[simp] theorem RA(env:Env)(k:Nat)(ks:List Nat):cG env (k::ks)=(k,get env k)::cG env ks:=rfl
theorem uR{c:Code}{id:Nat}{env:Env}{h:ab}{n nt:Nat}{α β:Type}(J:α→Prop)(ks:List Nat)(mods:α→Env)(hf:α→ab)(μ:α→Nat)(F:β→Prop)(fks:List Nat)(fmods:β→Env)(ff:β→ab)(x0:α)(hJ:J x0)(h0:mC env n (mods x0++cG env ks))(h1:kW h n (hf x0))(round:∀x,J x→aG fk P c ⟨mods x++cG env ks,hf x,n,nt⟩ (fL fk J (fun x=>⟨mods x++cG env ks,hf x,n,nt⟩) μ x (jd fk id F (fun y=>⟨fmods y++cG env fks,ff y,n,nt⟩) K)))(after:∀y,F y→K .normal ⟨fmods y++cG env fks,ff y,n,nt⟩):aG fk P (.block id (.loop c)) ⟨env,h,n,nt⟩ K:=by
 refine D6 (fun hk=>cO (zO (sL J (fun x=>⟨mods x++cG env ks,hf x,n,nt⟩) μ x0 hJ (aX h0 h1 hk) round) (fun e s hk=>?_)))
 cases e<;>first
  |exact hk.elim
  |exact⟨s,Lek.refl s,hk⟩
  |(simp only[jd] at hk
    simp only[dD];split at hk
    ·rename_i hid;obtain⟨y,hy,hle⟩:=hk;exact⟨_,hle,by rw[if_pos hid];exact after y hy⟩
    ·rename_i hid
     exact⟨s,Lek.refl s,by rw[if_neg hid];exact hk⟩)
def n5(fk:Fk){β:Type}(F:β→Prop)(fin:β→St)(K:Exit→St→Prop):Exit→St→Prop
 |.normal,s=>kX fk F fin s
 |e,s=>K e s
@[simp] theorem RB{β:Type}(F:β→Prop)(fin:β→St)(s:St):n5 fk F fin K .normal s=kX fk F fin s:=rfl
@[simp] theorem RD{β:Type}(i:Nat)(F:β→Prop)(fin:β→St)(s:St):n5 fk F fin K (.exit i) s=K (.exit i) s:=rfl
@[simp] theorem RF{β:Type}(F:β→Prop)(fin:β→St)(s:St):n5 fk F fin K .ret s=K .ret s:=rfl
@[congr] theorem RG{β:Type}{F:β→Prop}{fin:β→St}{e e':Exit}{s s':St}(h:e=e')(h2:s=s'):n5 fk F fin K e s=n5 fk F fin K e' s':=by rw[h,h2]
end
omit [ah] in
@[simp] theorem Hf(h:ab)(o f:Bool):∀l:List PV,fK h (l.map (.w o f))=some l
 |[]=>rfl
 |p::r=>by simp[fK,frz,Hf h o f r]
omit [ah] in
@[simp] theorem Hg(o f:Bool):∀l:List PV,gP (l.map (.w o f))=true
 |[]=>rfl
 |p::r=>by simp[gP,qL,Hg o f r]
end Go.Fi
namespace Go.Fi
open Go Go.RowKit
open Go.Conc (G)
section
variable{P:Program}{b:Frame}{a:Act}{k:List Item}{cs:List Frame}{w:World}
theorem Iw{c:Code}:stepG P true (G (b.atR a (.code (.scope c)::k)) cs) w=.go (G (b.atR a (.code c::.inScope c::k)) cs) w #[]:=by simp[G,stepG,stepG.exec,Frame.atR]
theorem Ix{c:Code}:stepG P true (G (b.atR a (.inScope c::k)) cs) w=.go (G (b.atR a k) cs) w #[]:=by simp[G,stepG,stepG.exec,Frame.atR]
end
section
variable[EnvD]
variable{P:Program}{r:Option Nat}{Q:Exit→Act→World→Prop}{a:Act}{w:World}
theorem Iy{c:Code}(h:c.wpT r P Q a w):(Code.scope c).wpT r P Q a w:=by
 intro b k cs hr hk;refine .quiet _ _ (fun _=>Iw) aS ((h b (.inScope c::k) cs hr hk).bind ?_)
 rintro fr cs' w' ⟨rfl,e,a',hq,he⟩
 cases e with
 |normal=>subst he;exact .quiet _ _ (fun _=>Ix) aS (.now ⟨rfl,.normal,a',hq,rfl⟩)
 |exit id=>
  obtain⟨k1,h1,rfl⟩:=he;exact .now ⟨rfl,.exit id,a',hq,k1,h1.trans (by simp[exitTo]),rfl⟩
 |ret=>obtain⟨k1,rfl⟩:=he;exact .now ⟨rfl,.ret,a',hq,k1,rfl⟩
 |_=>exact he.elim
end
variable[ah]
variable{fk:Fk}{P:Program}{K:Exit→St→Prop}{st:St}
theorem Iz{c:Code}(h:aG fk P c st K):aG fk P (.scope c) st K:=fun B w0 a w m hs=>Iy (h B w0 a w m hs)
theorem IA{l:Nat}(h:K .normal st):aG fk P (.label l) st K:=fun _ _ _ _ m hs=>CN ⟨st,m,h,hs⟩
end Go.Fi
