/- Lemmas. -/
import Derived.Test.YthpkmilhiganjaaGreatPLc
set_option linter.all false
set_option maxHeartbeats 32000000
set_option maxRecDepth 100000
namespace Go.Fi
open Go Go.RowKit
variable[bI]
variable{fk:Fk}
@[congr] theorem T8{P:Program}{c:Code}{st st':St}{K:Exit->St->Prop}(h:st=st'):cP fk P c st K=cP fk P c st' K:=by rw[h]
@[congr] theorem T9{P:Program}{ops:Array Oper}{nt:Nat}{os:List Oper}{e e':Env}{h h':bE}{n n':Nat}{K:Env->bE->Nat->Prop}(h1:e=e')(h2:h=h')(h3:n=n'):dt P ops nt os e h n K=dt P ops nt os e' h' n' K:=by rw[h1,h2,h3]
@[congr] theorem Ua{P:Program}{ops:Array Oper}{nt:Nat}{os:List Oper}{e e':Env}{h h':bE}{n n':Nat}{K:Env->bE->Nat->Prop}(h1:e=e')(h2:h=h')(h3:n=n'):gk P ops nt os e h n K=gk P ops nt os e' h' n' K:=by rw[h1,h2,h3]
@[congr] theorem Ub{P:Program}{env env':Env}{h h':bE}{n n':Nat}{op:Op}{K:AV->bE->Nat->Prop}(h1:env=env')(h2:h=h')(h3:n=n'):dp P env h n op K=dp P env' h' n' op K:=by rw[h1,h2,h3]
@[congr] theorem Uc{P:Program}{env env':Env}{h h':bE}{n n':Nat}{op:Op}{K:AV->List (List AV)->Prop}(h1:env=env')(h2:h=h')(h3:n=n'):dk P env h n op K=dk P env' h' n' op K:=by rw[h1,h2,h3]
@[congr] theorem Ud{P:Program}{g:FuncId}{args h5:List PV}{K:PV->Bool->Prop}{K2:List (List AV)->AV->Prop}{mk:Mark (K,K2)}(h:args=h5):CW P g args K K2 mk=CW P g h5 K K2 mk:=by rw[h]
def aW(r:Option (Prop×AV×List (List AV)))(K:AV->List (List AV)->Prop)(_:Mark K):Prop:=
 match r with
 |some (c,v,E)=>c/\K v E
 |none=>False
section
omit [bI]
@[congr] theorem Ue{r r':Option (Prop×AV×List (List AV))}{K:AV->List (List AV)->Prop}{mk:Mark K}(h:r=r'):aW r K mk=aW r' K mk:=by rw[h]
@[simp]theorem Uf(c:Prop)(v:AV)(E:List (List AV))(K:AV->List (List AV)->Prop)(mk:Mark K):aW (some (c,v,E)) K mk=(c/\K v E):=rfl
@[simp]theorem Ug(K:AV->List (List AV)->Prop)(mk:Mark K):aW none K mk=False:=rfl
end
section
variable{P:Program}{ops:Array Oper}{nt:Nat}{env:Env}{h:bE}{n:Nat}
@[simp ↓]theorem Uh(K:Env->bE->Nat->Prop):dt P ops nt [] env h n K=K env h n:=rfl
@[simp ↓]theorem Ui(K:Env->bE->Nat->Prop):gk P ops nt [] env h n K=K env h n:=rfl
section
omit [bI]
@[simp]theorem Uj(d:Nat):dOk nt (some d)=(d<nt):=rfl
@[simp]theorem Uk:dOk nt none=True:=rfl
@[simp]theorem Ul(d:Nat)(v:AV):put env (some d) v=(d,v)::env:=rfl
@[simp]theorem Um(v:AV):put env none v=env:=rfl
@[simp]theorem Un:cV h n []=h:=rfl
@[simp]theorem Uo(c:List AV):cV h n [c]=(n,c)::h:=rfl
@[simp]theorem Up(t:Nat):get [] t=.w false false .undef:=rfl
@[simp]theorem Uq(k t:Nat)(v:AV):get ((k,v)::env) t=if k=t then v else get env t:=rfl
@[simp]theorem Ur(k t:Nat)(v:List AV):cJ ((k,v)::h) t=if k=t then some v else cJ h t:=rfl
@[simp]theorem Us(t:Nat):cJ [] t=none:=rfl
@[simp]theorem Ut(k t:Nat)(v x:List AV):dQ ((k,v)::h) t x=if k=t then (k,x)::h else (k,v)::dQ h t x:=rfl
@[simp]theorem Uu(t:Nat):ev env (.tmp t)=get env t:=rfl
@[simp]theorem Uv(v:Value):ev env (.const v)=cst v:=rfl
@[simp]theorem Uw(f:FuncId):ev env (.func f)=.fn f []:=rfl
end
attribute [simp] cst nD
@[simp ↓]theorem Ux(dst:Option Tmp)(op:Op)(ty:TypeId)(pos:String)(after:Array Edge)(os:List Oper)(K:Env->bE->Nat->Prop):dt P ops nt (⟨dst,op,ty,pos,after,none⟩::os) env h n K=(dOk nt dst/\dp P env h n op λv h' n'=>dt P ops nt os (put env dst v) h' n' K):=by
 simp[dt,gj]
@[simp ↓]theorem Uy(dst:Option Tmp)(op:Op)(ty:TypeId)(pos:String)(after:Array Edge)(os:List Oper)(K:Env->bE->Nat->Prop):gk P ops nt (⟨dst,op,ty,pos,after,none⟩::os) env h n K=(dOk nt dst/\dk P env h n op λv E=>gk P ops nt os (put env dst v) (cV h n E) (n+E.length) K):=by
 simp[gk,gj]
def gW(g:Option Bool)(X Y:Prop):Prop:=
 match g with
 |some b=>(b=true->X)/\(b=false->Y)
 |none=>False
section
omit [bI]
@[congr] theorem Uz{g g':Option Bool}{X Y:Prop}(h:g=g'):gW g X Y=gW g' X Y:=by rw[h]
@[simp]theorem BG(X Y:Prop):gW (some true) X Y=X:=by simp[gW]
@[simp]theorem BH(X Y:Prop):gW (some false) X Y=Y:=by simp[gW]
end
def u6(v:AV)(want:Bool):Option Bool:=
 match v with
 |.w _ _ (.bool b)=>some (b==want)
 |.tup []=>some false
 |_=>none
omit [bI] in
@[simp]theorem UA(o f b want:Bool):u6 (.w o f (.bool b)) want=some (b==want):=rfl
omit [bI] in
@[simp]theorem UB(want:Bool):u6 (.tup []) want=some false:=rfl
def gOf(ops:Array Oper)(env:Env)(j:Nat)(want:Bool):Option Bool:=
 match dV ops j with
 |none=>some false
 |some t=>u6 (get env t) want
omit [bI] in
theorem BI(dst:Option Tmp)(op:Op)(ty:TypeId)(pos:String)(after:Array Edge)(j:Nat)(want:Bool):gj ops env ⟨dst,op,ty,pos,after,some (j,want)⟩=gOf ops env j want:=by
 rfl
theorem OL(dst:Option Tmp)(op:Op)(ty:TypeId)(pos:String)(after:Array Edge)(j:Nat)(want:Bool)(os:List Oper)(K:Env->bE->Nat->Prop):dt P ops nt (⟨dst,op,ty,pos,after,some (j,want)⟩::os) env h n K=(dOk nt dst/\gW (gOf ops env j want) (dp P env h n op λv h' n'=>dt P ops nt os (put env dst v) h' n' K) (dt P ops nt os (put env dst (.tup [])) h n K)):=by
 conv=>lhs;unfold dt
 rw[BI]
 cases gOf ops env j want<;>simp[gW]
theorem OM(dst:Option Tmp)(op:Op)(ty:TypeId)(pos:String)(after:Array Edge)(j:Nat)(want:Bool)(os:List Oper)(K:Env->bE->Nat->Prop):gk P ops nt (⟨dst,op,ty,pos,after,some (j,want)⟩::os) env h n K=(dOk nt dst/\gW (gOf ops env j want) (dk P env h n op λv E=>gk P ops nt os (put env dst v) (cV h n E) (n+E.length) K) (gk P ops nt os (put env dst (.tup [])) h n K)):=by
 conv=>lhs;unfold gk
 rw[BI]
 cases gOf ops env j want<;>simp[gW]
def gM(g:Option Bool)(X Y:Prop)(_:Mark (X,Y)):Prop:=gW g X Y
omit [bI] in
@[congr] theorem UC{g g':Option Bool}{X Y:Prop}{mk:Mark (X,Y)}(h:g=g'):gM g X Y mk=gM g' X Y mk:=by rw[h]
def gE(g:Option Bool)(P:Program)(env:Env)(h:bE)(n:Nat)(op:Op)(K:AV->bE->Nat->Prop)(_:Mark K):Prop:=gW g (dp P env h n op K) (K (.tup []) h n)
def gQ(g:Option Bool)(P:Program)(env:Env)(h:bE)(n:Nat)(op:Op)(K:AV->List (List AV)->Prop)(_:Mark K):Prop:=gW g (dk P env h n op K) (K (.tup []) [])
@[congr] theorem UD{g g':Option Bool}{P:Program}{env env':Env}{h h':bE}{n n':Nat}{op:Op}{K:AV->bE->Nat->Prop}{mk:Mark K}(e1:g=g')(e2:env=env')(e3:h=h')(e4:n=n'):gE g P env h n op K mk=gE g' P env' h' n' op K mk:=by rw[e1,e2,e3,e4]
@[congr] theorem UE{g g':Option Bool}{P:Program}{env env':Env}{h h':bE}{n n':Nat}{op:Op}{K:AV->List (List AV)->Prop}{mk:Mark K}(e1:g=g')(e2:env=env')(e3:h=h')(e4:n=n'):gQ g P env h n op K mk=gQ g' P env' h' n' op K mk:=by rw[e1,e2,e3,e4]
section
variable{op:Op}{K:AV->bE->Nat->Prop}{mk:Mark K}{Kq:AV->List (List AV)->Prop}{mkq:Mark Kq}{b:Bool}{p:Prop}[Decidable p]
@[simp]theorem UF:gE (some true) P env h n op K mk=dp P env h n op K:=by unfold gE;exact BG _ _
@[simp]theorem UG:gE (some false) P env h n op K mk=K (.tup []) h n:=by unfold gE;exact BH _ _
@[simp]theorem UH:gQ (some true) P env h n op Kq mkq=dk P env h n op Kq:=by unfold gQ;exact BG _ _
@[simp]theorem UI:gQ (some false) P env h n op Kq mkq=Kq (.tup []) []:=by unfold gQ;exact BH _ _
theorem xr(hx:b=true->dp P env h n op K)(hy:b=false->K (.tup []) h n):gE (some b) P env h n op K mk:=⟨hx,hy⟩
theorem xu(hx:b=false->dp P env h n op K)(hy:b=true->K (.tup []) h n):gE (some (!b)) P env h n op K mk:=⟨λh=>hx av,λh=>hy av⟩
theorem ON(hx:p->dp P env h n op K)(hy:¬p->K (.tup []) h n):gE (some (decide p)) P env h n op K mk:=⟨λh=>hx av,λh=>hy av⟩
theorem OO(hx:¬p->dp P env h n op K)(hy:p->K (.tup []) h n):gE (some (!decide p)) P env h n op K mk:=⟨λh=>hx av,λh=>hy av⟩
end
section
variable{dst:Option Tmp}{op:Op}{ty:TypeId}{pos:String}{after:Array Edge}{j:Nat}{want:Bool}{os:List Oper}
@[simp ↓]theorem UJ{K:Env->bE->Nat->Prop}:dt P ops nt (⟨dst,op,ty,pos,after,some (j,want)⟩::os) env h n K=(dOk nt dst/\gE (gOf ops env j want) P env h n op (λv h' n'=>dt P ops nt os (put env dst v) h' n' K) .it):=OL ..
@[simp ↓]theorem UK{K:Env->bE->Nat->Prop}:gk P ops nt (⟨dst,op,ty,pos,after,some (j,want)⟩::os) env h n K=(dOk nt dst/\gQ (gOf ops env j want) P env h n op (λv E=>gk P ops nt os (put env dst v) (cV h n E) (n+E.length) K) .it):=OM ..
end
def nQ:List Oper->Nat->Option Tmp
 |[],_=>none
 |o::_,0=>o.dst
 |_::r,k+1=>nQ r k
omit [bI] in
@[simp]theorem UL(o:Oper)(r:List Oper):nQ (o::r) 0=o.dst:=by rw[nQ]
omit [bI] in
@[simp]theorem UM(o:Oper)(r:List Oper)(k:Nat):nQ (o::r) (k+1)=nQ r k:=by rw[nQ]
def gV(env:Env)(d:Option Tmp)(want:Bool):Option Bool:=
 match d with
 |none=>some false
 |some t=>u6 (get env t) want
section
omit [bI]
@[simp]theorem UN(t:Tmp)(want:Bool):gV env (some t) want=u6 (get env t) want:=rfl
theorem GZ:∀(l:List Oper)(j:Nat),nQ l j=(l[j]?).bind (·.dst)
 |[],j=>by simp[nQ]
 |o::r,0=>rfl
 |o::r,j+1=>by simp only[nQ,yA];exact GZ r j
@[simp]theorem UO(l:List Oper)(j:Nat)(want:Bool):gOf l.toArray env j want=gV env (nQ l j) want:=by
 unfold gOf dV gV;rw[yC,GZ]
 cases (l[j]?).bind (·.dst)<;>rfl
end
@[simp ↓]theorem UP(x:Operand)(K:AV->bE->Nat->Prop):dp P env h n (.move x) K=K (ev env x) h n:=by simp[dp,dk,aOp]
@[simp ↓]theorem UQ(x:Operand)(K:AV->bE->Nat->Prop):dp P env h n (.assign x) K=K (ev env x) h n:=by simp[dp,dk,aOp]
@[simp ↓]theorem UR(x:Operand)(K:AV->List (List AV)->Prop):dk P env h n (.move x) K=K (ev env x) []:=by simp[dk,aOp]
@[simp ↓]theorem US(x:Operand)(K:AV->List (List AV)->Prop):dk P env h n (.assign x) K=K (ev env x) []:=by simp[dk,aOp]
end
def Dl(h:bE)(ty:Option (Nat×Bool))(ad x:AV):Option (Prop×bE):=
 match ty,ad with
 |some (sz,_),.ptr id ver off=>
  match cJ h id with
  |some cells=>some ((cells.length=ver/\x.ok=true/\x.cells.length=sz/\off+sz<=cells.length/\eo x.cells=true),dQ h id (setAt cells off x.cells))
  |none=>none
 |_,_=>none
def Dm(P:Program)(h:bE)(n:Nat)(t tx:TypeId)(s x:AV):Option (Prop×AV×bE×Nat):=
 match slE P t,slE P tx with
 |some (e,sz),some _=>
  match byE P e,fw P e,iN h sz x with
  |some by_,some z,some (k2,news,c)=>
   match s with
   |.msl id ver z' off k=>
    match cJ h id with
    |some cells=>some ((c/\off=0/\cells.length=ver/\z'=sz/\z.length=sz/\0<sz/\k*sz<=ver/\k+k2<=1000000000/\by_<=100000/\eo news=true),
      .msl id (iO cells (k*sz) news).length sz 0 (k+k2),dQ h id (iO cells (k*sz) news),n)
    |none=>none
   |.w own true (.sl k cells)=>
    bif own&&decide (k=0)&&cells.isEmpty then some ((c/\0<k2/\z.length=sz/\0<sz/\k2<=1000000000/\by_<=100000),.msl n news.length sz 0 k2,(n,news)::h,n+1)
    else match pvs news with
     |some q=>some ((c/\cells.length=k*sz/\z.length=sz/\0<sz/\k+k2<=1000000000/\by_<=100000),.w (jA q&&(own || cells.isEmpty)) false (.sl (k+k2) (cells++q)),h,n)
     |none=>none
   |_=>none
  |_,_,_=>none
 |_,_=>none
def Dp(P:Program)(h:bE)(n:Nat)(args:List AV)(tys:List TypeId):Option (Prop×AV×bE×Nat):=
 match args,tys with
 |[s,x],[t,tx]=>Dm P h n t tx s x
 |_,_=>none
def sM(r:Option (Prop×bE))(n:Nat)(K:AV->bE->Nat->Prop)(_:Mark K):Prop:=
 match r with
 |some (c,h')=>c/\K (.tup []) h' n
 |none=>False
def pM(r:Option (Prop×AV×bE×Nat))(K:AV->bE->Nat->Prop)(_:Mark K):Prop:=
 match r with
 |some (c,v,h',n')=>c/\K v h' n'
 |none=>False
section
omit [bI]
@[congr] theorem UT{r r':Option (Prop×bE)}{n n':Nat}{K:AV->bE->Nat->Prop}{mk:Mark K}(h:r=r')(h2:n=n'):sM r n K mk=sM r' n' K mk:=by rw[h,h2]
@[congr] theorem UU{r r':Option (Prop×AV×bE×Nat)}{K:AV->bE->Nat->Prop}{mk:Mark K}(h:r=r'):pM r K mk=pM r' K mk:=by rw[h]
@[simp]theorem UW(c:Prop)(h':bE)(n:Nat)(K:AV->bE->Nat->Prop)(mk:Mark K):sM (some (c,h')) n K mk=(c/\K (.tup []) h' n):=rfl
@[simp]theorem UX(c:Prop)(v:AV)(h':bE)(n':Nat)(K:AV->bE->Nat->Prop)(mk:Mark K):pM (some (c,v,h',n')) K mk=(c/\K v h' n'):=rfl
end
@[simp ↓]theorem UY{P:Program}{env:Env}{h:bE}{n:Nat}(t:TypeId)(ad x:Operand)(K:AV->bE->Nat->Prop):dp P env h n (.store t ad x) K=sM (Dl h (tyL P t) (ev env ad) (ev env x)) n K .it:=by
 show sr P env h n t ad x K=_;unfold sr Dl
 cases tyL P t with
 |none=>cases ev env ad<;>rfl
 |some y=>
  obtain⟨sz,g⟩:=y
  cases ev env ad with
  |ptr id ver off=>dsimp only;cases cJ h id<;>rfl
  |_=>rfl
@[simp ↓]theorem UZ{P:Program}{env:Env}{h:bE}{n:Nat}(args:Array Operand)(tys:Array TypeId)(K:AV->bE->Nat->Prop):dp P env h n (.call ⟨.builtin .append,args,tys⟩) K=pM (Dp P h n (args.toList.map (ev env)) tys.toList) K .it:=by
 show sj P env h n args.toList tys.toList K=_;generalize args.toList=la;generalize tys.toList=lt;unfold sj Dp
 match la,lt with
 |[s,x],[t,tx]=>
  simp only[List.map];unfold Dm
  cases slE P t with
  |none=>rfl
  |some y=>
   obtain⟨e,sz⟩:=y
   cases slE P tx with
   |none=>rfl
   |some y2=>
    dsimp only
    cases byE P e with
    |none=>rfl
    |some by_=>
     cases fw P e with
     |none=>rfl
     |some z=>
      cases iN h sz (ev env x) with
      |none=>rfl
      |some y3=>
       obtain⟨k2,news,c⟩:=y3;dsimp only
       cases ev env s with
       |msl id ver z' off k=>dsimp only;cases cJ h id<;>rfl
       |w own f p=>
        cases f with
        |false=>rfl
        |true=>
         cases p with
         |sl k cells=>
          dsimp only
          cases (own&&decide (k=0)&&cells.isEmpty) with
          |true=>rfl
          |false=>simp only[cond_false];cases pvs news<;>rfl
         |_=>rfl
       |_=>rfl
 |[],_=>simp[pM]
 |[_],_=>simp[pM]
 |_::_::_::_,_=>simp[pM]
 |[_,_],[]=>simp[pM]
 |[_,_],[_]=>simp[pM]
 |[_,_],_::_::_::_=>simp[pM]
@[simp ↓]theorem U0{P:Program}{env:Env}{h:bE}{n:Nat}(args:Array Operand)(tys:Array TypeId)(K:AV->bE->Nat->Prop):dp P env h n (.call ⟨.builtin .copy,args,tys⟩) K=pM ((su P h (args.toList.map (ev env)) tys.toList).map λy=>(y.1,y.2.1,y.2.2,n)) K .it:=by
 show sw P env h n args.toList tys.toList K=_;unfold sw
 cases su P h (args.toList.map (ev env)) tys.toList with
 |none=>rfl
 |some y=>rfl
attribute [simp] su pH shr
def eK(h:bE)(n:Nat)(K:AV->bE->Nat->Prop):AV->List (List AV)->Prop:=λv E=>K v (cV h n E) (n+E.length)
omit [bI] in
@[simp ↓]theorem U1(h:bE)(n:Nat)(K:AV->bE->Nat->Prop)(v:AV):eK h n K v []=K v h n:=by rfl
omit [bI] in
@[simp ↓]theorem U2(h:bE)(n:Nat)(K:AV->bE->Nat->Prop)(v:AV)(c:List AV):eK h n K v [c]=K v ((n,c)::h) (n+1):=by rfl
section
variable{P:Program}{env:Env}{h:bE}{n:Nat}(K:AV->bE->Nat->Prop)(Kq:AV->List (List AV)->Prop)
def gdV(b:Bool)(v:AV):AV:=bif b then v else .tup []
omit [bI] in
@[simp]theorem U3(v:AV):gdV true v=v:=rfl
omit [bI] in
@[simp]theorem U4(v:AV):gdV false v=.tup []:=rfl
def pkW(c x y:AV)(K:AV->List (List AV)->Prop)(_:Mark K):Prop:=
 match c with
 |.w _ _ (.bool t)=>
  match x,y with
  |.w _ _ (.bool a),.w _ _ (.bool b)=>K (.w false false (.bool (bif t then a else b))) []
  |x,y=>K (bif t then x else y) []
 |_=>False
omit [bI] in
@[congr] theorem U5{c c' x x' y y':AV}{K:AV->List (List AV)->Prop}{mk:Mark K}(h1:c=c')(h2:x=x')(h3:y=y'):pkW c x y K mk=pkW c' x' y' K mk:=by rw[h1,h2,h3]
section
variable{K:AV->List (List AV)->Prop}{mk:Mark K}
section
omit [bI]
@[simp]theorem U6(o f t o1 f1 a o2 f2 b:Bool):pkW (.w o f (.bool t)) (.w o1 f1 (.bool a)) (.w o2 f2 (.bool b)) K mk=K (.w false false (.bool (bif t then a else b))) []:=rfl
@[simp]theorem U7(o f t:Bool)(l:List AV)(y:AV):pkW (.w o f (.bool t)) (.tup l) y K mk=K (bif t then .tup l else y) []:=rfl
@[simp]theorem U8(o f t:Bool)(l:List AV)(x:AV):pkW (.w o f (.bool t)) x (.tup l) K mk=K (bif t then x else .tup l) []:=by
 unfold pkW;simp only
end
@[simp ↓]theorem OP(c x y:Operand):dk P env h n (.pick c x y) K=pkW (ev env c) (ev env x) (ev env y) K .it:=by
 simp only[dk,aOp,pkW];generalize ev env c=cv;generalize ev env x=xv;generalize ev env y=yv
 cases cv with
 |w o f v=>
  cases v with
  |bool t=>
   simp only;split
   .rename_i e1;split at e1<;>(injection e1 with e1;injection e1 with e1 e;injection e with e2 e3;subst e1;subst e2;subst e3;simp)
   .rename_i e1;split at e1<;>cases e1
  |_=>rfl
 |_=>rfl
@[simp ↓]theorem U9(c x y:Operand)(K:AV->bE->Nat->Prop):dp P env h n (.pick c x y) K=pkW (ev env c) (ev env x) (ev env y) (eK h n K) .it:=by
 rw[<-OP];rfl
end
@[simp ↓]theorem Va(t:TypeId):dp P env h n (.alloc t) K=aW (aOp P h n (ev env) (.alloc t)) (eK h n K) .it:=rfl
@[simp ↓]theorem Vb(t:TypeId):dk P env h n (.alloc t) Kq=aW (aOp P h n (ev env) (.alloc t)) Kq .it:=rfl
@[simp ↓]theorem zcb(t:TypeId)(x:Operand):dp P env h n (.box t x) K=aW (aOp P h n (ev env) (.box t x)) (eK h n K) .it:=rfl
@[simp ↓]theorem zcc(t:TypeId)(x:Operand):dk P env h n (.box t x) Kq=aW (aOp P h n (ev env) (.box t x)) Kq .it:=rfl
@[simp ↓]theorem Vd(t:TypeId)(ps:Array (Nat×Operand)):dp P env h n (.build t ps) K=aW (aOp P h n (ev env) (.build t ps)) (eK h n K) .it:=rfl
@[simp ↓]theorem Ve(t:TypeId)(ps:Array (Nat×Operand)):dk P env h n (.build t ps) Kq=aW (aOp P h n (ev env) (.build t ps)) Kq .it:=rfl
@[simp ↓]theorem Vf(t:TypeId)(l:Nat)(ps:Array (Nat×Operand)):dp P env h n (.buildSlice t l ps) K=aW (aOp P h n (ev env) (.buildSlice t l ps)) (eK h n K) .it:=rfl
@[simp ↓]theorem Vg(t:TypeId)(l:Nat)(ps:Array (Nat×Operand)):dk P env h n (.buildSlice t l ps) Kq=aW (aOp P h n (ev env) (.buildSlice t l ps)) Kq .it:=rfl
@[simp ↓]theorem Vh(t:TypeId)(x:Operand):dp P env h n (.load t x) K=aW (aOp P h n (ev env) (.load t x)) (eK h n K) .it:=rfl
@[simp ↓]theorem Vi(t:TypeId)(x:Operand):dk P env h n (.load t x) Kq=aW (aOp P h n (ev env) (.load t x)) Kq .it:=rfl
@[simp ↓]theorem Vj(x:Operand):dp P env h n (.nilCheck x) K=aW (aOp P h n (ev env) (.nilCheck x)) (eK h n K) .it:=rfl
@[simp ↓]theorem Vk(x:Operand):dk P env h n (.nilCheck x) Kq=aW (aOp P h n (ev env) (.nilCheck x)) Kq .it:=rfl
@[simp ↓]theorem Vl(op:BinOp)(t:TypeId)(x y:Operand)(yt:TypeId):dp P env h n (.binOp op t x y yt) K=aW (aOp P h n (ev env) (.binOp op t x y yt)) (eK h n K) .it:=rfl
@[simp ↓]theorem Vm(op:BinOp)(t:TypeId)(x y:Operand)(yt:TypeId):dk P env h n (.binOp op t x y yt) Kq=aW (aOp P h n (ev env) (.binOp op t x y yt)) Kq .it:=rfl
@[simp ↓]theorem Vn(op:UnOp)(t:TypeId)(x:Operand):dp P env h n (.unOp op t x) K=aW (aOp P h n (ev env) (.unOp op t x)) (eK h n K) .it:=rfl
@[simp ↓]theorem Vo(op:UnOp)(t:TypeId)(x:Operand):dk P env h n (.unOp op t x) Kq=aW (aOp P h n (ev env) (.unOp op t x)) Kq .it:=rfl
def cvW(P:Program)(env:Env)(h:bE)(n:Nat)(src dst:TypeId)(x:Operand)(v:AV)(K:AV->bE->Nat->Prop)(_:Mark K):Prop:=
 match v with
 |.w _ _ (.str s)=>sB P src dst=true/\K (.w true false (.sl s.size (mN s))) h n
 |_=>dk P env h n (.convert src dst x) λv E=>K v (cV h n E) (n+E.length)
@[congr] theorem Vp{P:Program}{env:Env}{h:bE}{n:Nat}{src dst:TypeId}{x:Operand}{v v':AV}{K:AV->bE->Nat->Prop}{mk:Mark K}(e:v=v'):cvW P env h n src dst x v K mk=cvW P env h n src dst x v' K mk:=by rw[e]
@[simp]theorem Vq(src dst:TypeId)(x:Operand)(o f:Bool)(s:ByteArray)(K:AV->bE->Nat->Prop)(mk:Mark K):cvW P env h n src dst x (.w o f (.str s)) K mk=(sB P src dst=true/\K (.w true false (.sl s.size (mN s))) h n):=rfl
@[simp]theorem Vr(src dst:TypeId)(x:Operand)(o f:Bool)(k:IntKind)(a:Int)(K:AV->bE->Nat->Prop)(mk:Mark K):cvW P env h n src dst x (.w o f (.int k a)) K mk=aW (aOp P h n (ev env) (.convert src dst x)) (eK h n K) .it:=rfl
omit [bI] in
@[simp]theorem Vs(s:ByteArray):(mN s).length=s.size:=by simp[mN]
@[simp ↓]theorem Vt(s d:TypeId)(x:Operand):dp P env h n (.convert s d x) K=cvW P env h n s d x (ev env x) K .it:=rfl
@[simp ↓]theorem Vu(s d:TypeId)(x:Operand):dk P env h n (.convert s d x) Kq=aW (aOp P h n (ev env) (.convert s d x)) Kq .it:=rfl
@[simp ↓]theorem Vv(t:TypeId)(x:Operand):dp P env h n (.makeInterface t x) K=aW (aOp P h n (ev env) (.makeInterface t x)) (eK h n K) .it:=rfl
@[simp ↓]theorem Vw(t:TypeId)(x:Operand):dk P env h n (.makeInterface t x) Kq=aW (aOp P h n (ev env) (.makeInterface t x)) Kq .it:=rfl
@[simp ↓]theorem Vx(f:Fn)(a b:Array Operand):dp P env h n (.makeFunc f a b) K=aW (aOp P h n (ev env) (.makeFunc f a b)) (eK h n K) .it:=rfl
@[simp ↓]theorem Vy(f:Fn)(a b:Array Operand):dk P env h n (.makeFunc f a b) Kq=aW (aOp P h n (ev env) (.makeFunc f a b)) Kq .it:=rfl
@[simp ↓]theorem Vz(t:TypeId)(x y:Operand):dp P env h n (.makeSlice t x y) K=aW (aOp P h n (ev env) (.makeSlice t x y)) (eK h n K) .it:=rfl
@[simp ↓]theorem VA(t:TypeId)(x y:Operand):dk P env h n (.makeSlice t x y) Kq=aW (aOp P h n (ev env) (.makeSlice t x y)) Kq .it:=rfl
@[simp ↓]theorem VB(t:TypeId)(x:Operand)(l u m:Option Operand):dp P env h n (.slice t x l u m) K=aW (aOp P h n (ev env) (.slice t x l u m)) (eK h n K) .it:=rfl
@[simp ↓]theorem VC(t:TypeId)(x:Operand)(l u m:Option Operand):dk P env h n (.slice t x l u m) Kq=aW (aOp P h n (ev env) (.slice t x l u m)) Kq .it:=rfl
@[simp ↓]theorem VD(t:TypeId)(x:Operand)(f:Nat):dp P env h n (.fieldAddr t x f) K=aW (aOp P h n (ev env) (.fieldAddr t x f)) (eK h n K) .it:=rfl
@[simp ↓]theorem VE(t:TypeId)(x:Operand)(f:Nat):dk P env h n (.fieldAddr t x f) Kq=aW (aOp P h n (ev env) (.fieldAddr t x f)) Kq .it:=rfl
@[simp ↓]theorem VF(t:TypeId)(x:Operand)(f:Nat):dp P env h n (.field t x f) K=aW (aOp P h n (ev env) (.field t x f)) (eK h n K) .it:=rfl
@[simp ↓]theorem VG(t:TypeId)(x:Operand)(f:Nat):dk P env h n (.field t x f) Kq=aW (aOp P h n (ev env) (.field t x f)) Kq .it:=rfl
@[simp ↓]theorem VH(t:TypeId)(x i:Operand):dp P env h n (.indexAddr t x i) K=aW (aOp P h n (ev env) (.indexAddr t x i)) (eK h n K) .it:=rfl
@[simp ↓]theorem VI(t:TypeId)(x i:Operand):dk P env h n (.indexAddr t x i) Kq=aW (aOp P h n (ev env) (.indexAddr t x i)) Kq .it:=rfl
@[simp ↓]theorem VJ(t:TypeId)(x i:Operand):dp P env h n (.index t x i) K=aW (aOp P h n (ev env) (.index t x i)) (eK h n K) .it:=rfl
@[simp ↓]theorem VK(t:TypeId)(x i:Operand):dk P env h n (.index t x i) Kq=aW (aOp P h n (ev env) (.index t x i)) Kq .it:=rfl
@[simp ↓]theorem VL(x:Operand)(i:Nat):dp P env h n (.extract x i) K=aW (aOp P h n (ev env) (.extract x i)) (eK h n K) .it:=rfl
@[simp ↓]theorem VM(x:Operand)(i:Nat):dk P env h n (.extract x i) Kq=aW (aOp P h n (ev env) (.extract x i)) Kq .it:=rfl
@[simp ↓]theorem zcd(a:Array Operand)(t:Array TypeId):dp P env h n (.call ⟨.builtin .len,a,t⟩) K=aW (aOp P h n (ev env) (.call ⟨.builtin .len,a,t⟩)) (eK h n K) .it:=rfl
@[simp ↓]theorem zce(a:Array Operand)(t:Array TypeId):dk P env h n (.call ⟨.builtin .len,a,t⟩) Kq=aW (aOp P h n (ev env) (.call ⟨.builtin .len,a,t⟩)) Kq .it:=rfl
@[simp ↓]theorem zcf(a:Array Operand)(t:Array TypeId):dp P env h n (.call ⟨.builtin .max,a,t⟩) K=aW (aOp P h n (ev env) (.call ⟨.builtin .max,a,t⟩)) (eK h n K) .it:=rfl
@[simp ↓]theorem zcg(a:Array Operand)(t:Array TypeId):dk P env h n (.call ⟨.builtin .max,a,t⟩) Kq=aW (aOp P h n (ev env) (.call ⟨.builtin .max,a,t⟩)) Kq .it:=rfl
@[simp ↓]theorem zch(a:Array Operand)(t:Array TypeId):dp P env h n (.call ⟨.builtin .min,a,t⟩) K=aW (aOp P h n (ev env) (.call ⟨.builtin .min,a,t⟩)) (eK h n K) .it:=rfl
@[simp ↓]theorem zci(a:Array Operand)(t:Array TypeId):dk P env h n (.call ⟨.builtin .min,a,t⟩) Kq=aW (aOp P h n (ev env) (.call ⟨.builtin .min,a,t⟩)) Kq .it:=rfl
@[simp ↓]theorem VN(a:Array Operand)(t:Array TypeId):dk P env h n (.call ⟨.builtin .append,a,t⟩) Kq=aW (aOp P h n (ev env) (.call ⟨.builtin .append,a,t⟩)) Kq .it:=rfl
def cW(P:Program)(h:bE)(n:Nat)(f:Option (FuncId×List AV))(args:List AV)(K:AV->List (List AV)->Prop)(_:Mark K):Prop:=
 match f with
 |some (g,bY)=>uP P h n g (args++bY) K
 |none=>False
@[congr] theorem VO{P:Program}{h h':bE}{n:Nat}{f f':Option (FuncId×List AV)}{args h5:List AV}{K:AV->List (List AV)->Prop}{mk:Mark K}(h0:h=h')(h1:f=f')(h2:args=h5):cW P h n f args K mk=cW P h' n f' h5 K mk:=by rw[h0,h1,h2]
@[simp ↓]theorem VP(f:Operand)(a:Array Operand)(t:Array TypeId):dp P env h n (.call ⟨.value f,a,t⟩) K=cW P h n (ga (ev env f)) (a.toList.map (ev env)) (eK h n K) .it:=by
 rfl
@[simp ↓]theorem VQ(f:Operand)(a:Array Operand)(t:Array TypeId):dk P env h n (.call ⟨.value f,a,t⟩) Kq=cW P h n (ga (ev env f)) (a.toList.map (ev env)) Kq .it:=by
 rfl
def fW(P:Program)(n:Nat)(g:FuncId)(a:Option (List PV))(pure:Bool)(K:AV->List (List AV)->Prop)(_:Mark K):Prop:=
 match a with
 |some pvs=>CW P g pvs (λres fr=>(fr=true\/pure=true)/\K (.w (pG fr res) false res) []) (λE v=>K (v.sh n) (E.map (AV.sh.shL n))) .it
 |none=>False
@[congr] theorem VR{P:Program}{n:Nat}{g:FuncId}{a a':Option (List PV)}{p p':Bool}{K:AV->List (List AV)->Prop}{mk:Mark K}(h0:a=a')(h1:p=p'):fW P n g a p K mk=fW P n g a' p' K mk:=by rw[h0,h1]
@[simp]theorem VS(g:FuncId)(bY args:List AV)(mk:Mark Kq):cW P h n (some (g,bY)) args Kq mk=fW P n g (lM h (args++bY)) (nJ (args++bY)) Kq .it:=rfl
@[simp]theorem VT(g:FuncId)(pvs:List PV)(p:Bool)(mk:Mark Kq):fW P n g (some pvs) p Kq mk=CW P g pvs (λres fr=>(fr=true\/p=true)/\Kq (.w (pG fr res) false res) []) (λE v=>Kq (v.sh n) (E.map (AV.sh.shL n))) .it:=rfl
end
theorem cw{P:Program}{g:FuncId}{args:List PV}{K:PV->Bool->Prop}{K2:List (List AV)->AV->Prop}{res:PV}{fr:Bool}{mk:Mark (K,K2)}(h:bX P g args res fr)(hk:K res fr):CW P g args K K2 mk:=.inl ⟨res,fr,h,hk⟩
theorem cwM{P:Program}{g:FuncId}{args:List PV}{K:PV->Bool->Prop}{K2:List (List AV)->AV->Prop}{E:List (List AV)}{v:AV}{mk:Mark (K,K2)}(h:oG P g args E v)(hk:K2 E v):CW P g args K K2 mk:=.inr ⟨E,v,h,hk⟩
section
omit [bI]
@[simp]theorem Tp(n:Nat)(o f:Bool)(p:PV):AV.sh n (.w o f p)=.w o f p:=rfl
@[simp]theorem OQ(n id v off:Nat):AV.sh n (.ptr id v off)=.ptr (id+n) v off:=rfl
@[simp]theorem OR(n id v sz off k:Nat):AV.sh n (.msl id v sz off k)=.msl (id+n) v sz off k:=rfl
@[simp]theorem OS(n:Nat)(cs:List AV):AV.sh n (.agg cs)=.agg (AV.sh.shL n cs):=rfl
@[simp]theorem OT(n:Nat)(cs:List AV):AV.sh n (.tup cs)=.tup (AV.sh.shL n cs):=rfl
@[simp]theorem VU(n:Nat):AV.sh.shL n []=[]:=rfl
@[simp]theorem VV(n:Nat)(x:AV)(r:List AV):AV.sh.shL n (x::r)=x.sh n::AV.sh.shL n r:=rfl
end
@[simp ↓]theorem VW(P:Program)(b:Code)(K:Exit->St->Prop)(s:St):sE fk P b K .normal s=cP fk P b s K:=rfl
@[simp ↓]theorem VX(P:Program)(b:Code)(K:Exit->St->Prop)(s:St):sE fk P b K .ret s=K .ret s:=rfl
@[simp ↓]theorem VY(P:Program)(b:Code)(K:Exit->St->Prop)(id:Nat)(s:St):sE fk P b K (.exit id) s=K (.exit id) s:=rfl
section
omit [bI]
@[simp ↓]theorem VZ(i:Nat)(K:Exit->St->Prop)(s:St):jh i K .normal s=K .normal s:=rfl
@[simp ↓]theorem V0(i:Nat)(K:Exit->St->Prop)(s:St):jh i K .ret s=K .ret s:=rfl
@[simp ↓]theorem V1(i id:Nat)(K:Exit->St->Prop)(s:St):jh i K (.exit id) s=if id=i then K .normal s else K (.exit id) s:=rfl
@[simp ↓]theorem V2(P:Program)(rs:List ResultVar)(res:PV)(fr:Bool)(s:St):sX P rs res fr .normal s=oN P rs s res fr:=rfl
@[simp ↓]theorem V3(P:Program)(rs:List ResultVar)(res:PV)(fr:Bool)(s:St):sX P rs res fr .ret s=oN P rs s res fr:=rfl
end
theorem nx{fk:Fk}{α:Type}{J:α->Prop}{I:α->St}{μ:α->Nat}{x:α}{K:Exit->St->Prop}{s:St}(y:α)(h:J y)(hle:Lek fk s (I y))(hm:μ y<μ x:=by first|omega|(dsimp only;omega)|(simp;omega)):lN fk J I μ x K .normal s:=⟨y,h,hm,hle⟩
section
variable{α:Type}(J:α->Prop)(I:α->St)(μ:α->Nat)(x:α)(K:Exit->St->Prop)
theorem gu(y:α)(s:St)(h:J y)(hm:μ y<μ x)(hle:Lek fk s (I y)):lN fk J I μ x K .normal s:=⟨y,h,hm,hle⟩
@[simp ↓]theorem V4(s:St):lN fk J I μ x K .ret s=K .ret s:=rfl
@[simp ↓]theorem V5(id:Nat)(s:St):lN fk J I μ x K (.exit id) s=K (.exit id) s:=rfl
end
section
variable{β:Type}(id:Nat)(F:β->Prop)(fin:β->St)(R:St->Prop)
@[simp ↓]theorem V6(s:St):Cs fk id F fin R .ret s=R s:=rfl
@[congr] theorem V7{id:Nat}{F:β->Prop}{fin:β->St}{R:St->Prop}{e e':Exit}{s s':St}(h:e=e')(h2:s=s'):Cs fk id F fin R e s=Cs fk id F fin R e' s':=by rw[h,h2]
end
@[congr] theorem V8{P:Program}{b:Code}{K:Exit->St->Prop}{e e':Exit}{s s':St}(h:e=e')(h2:s=s'):sE fk P b K e s=sE fk P b K e' s':=by rw[h,h2]
omit [bI] in
@[congr] theorem V9{i:Nat}{K:Exit->St->Prop}{e e':Exit}{s s':St}(h:e=e')(h2:s=s'):jh i K e s=jh i K e' s':=by rw[h,h2]
@[congr] theorem Wa{α:Type}{J:α->Prop}{I:α->St}{μ:α->Nat}{x:α}{K:Exit->St->Prop}{e e':Exit}{s s':St}(h:e=e')(h2:s=s'):lN fk J I μ x K e s=lN fk J I μ x K e' s':=by rw[h,h2]
omit [bI] in
@[simp]theorem Wb(o f b:Bool)(X Y:Prop):oH (.w o f (.bool b)) X Y=((b=true->X)/\(b=false->Y)):=rfl
omit [bI] in
@[simp]theorem Wc(o f:Bool)(X Y:Prop):oH (.w o f .jQ) X Y=(X/\Y):=rfl
def nR(v:AV)(X Y:Prop)(_:Mark (X,Y)):Prop:=oH v X Y
section
omit [bI]
@[congr] theorem Wd{v v':AV}{X Y:Prop}{mk:Mark (X,Y)}(h:v=v'):nR v X Y mk=nR v' X Y mk:=by rw[h]
@[simp]theorem We(o f:Bool)(X Y:Prop)(mk:Mark (X,Y)):nR (.w o f (.bool true)) X Y mk=X:=by simp[nR,oH]
@[simp]theorem Wf(o f:Bool)(X Y:Prop)(mk:Mark (X,Y)):nR (.w o f (.bool false)) X Y mk=Y:=by simp[nR,oH]
theorem uu{o f b:Bool}{X Y:Prop}{mk:Mark (X,Y)}(hx:b=true->X)(hy:b=false->Y):nR (.w o f (.bool b)) X Y mk:=⟨hx,hy⟩
theorem lH{o f:Bool}{p:Prop}[Decidable p]{X Y:Prop}{mk:Mark (X,Y)}(hx:p->X)(hy:¬p->Y):nR (.w o f (.bool (decide p))) X Y mk:=⟨λh=>hx av,λh=>hy av⟩
theorem oA{o f:Bool}{p:Prop}[Decidable p]{X Y:Prop}{mk:Mark (X,Y)}(hx:¬p->X)(hy:p->Y):nR (.w o f (.bool (!decide p))) X Y mk:=⟨λh=>hx av,λh=>hy av⟩
end
theorem bQ{P:Program}{K:Exit->St->Prop}{st:St}{c:Operand}{x y:Code}(h:nR (ev st.env c) (cP fk P x st K) (cP fk P y st K) .it):cP fk P (.cond c x y) st K:=Nf h
omit [bI] in
@[congr] theorem Wh{v v':AV}{X Y:Prop}(h:v=v'):oH v X Y=oH v' X Y:=by rw[h]
attribute [simp] Cm Cl Co Cp aOp bin nG AV.ok AV.one AV.isAgg AV.cells setAt pD eqS eqL qP lov hiv frz lM xP nJ isW si ga iN iO eo jA pG pvs Dl Dm Dp jm pR jZ oneOf oN fO sY tc qW AV.lt AV.lt.ltL sd
section
omit [bI]
@[simp]theorem Wi:flat .undef=true:=rfl
@[simp]theorem Wj:flat .jQ=true:=rfl
@[simp]theorem Wl(b:Bool):flat (.bool b)=true:=rfl
@[simp]theorem Wm(k:IntKind)(n:Int):flat (.int k n)=true:=rfl
@[simp]theorem Wn(s:ByteArray):flat (.str s)=true:=rfl
@[simp]theorem Wo:flat .gX=true:=rfl
@[simp]theorem Wp(n:Nat)(c:List PV):flat (.sl n c)=false:=rfl
@[simp]theorem Wq(n:Nat)(c:List PV):flat (.ip c n)=false:=rfl
@[simp]theorem Wr(c:List PV):flat (.agg c)=false:=rfl
@[simp]theorem Wt(f:FuncId)(c:List PV):flat (.fn f c)=false:=rfl
@[simp]theorem Wu(z:List AV):jf 0 z=[]:=rfl
@[simp]theorem Wv(n:Nat)(z:AV):jf n [z]=List.replicate n z:=by
 unfold jf
 induction n with
 |zero=>rfl
 |succ n ih=>rw[DK,List.flatten_cons,ih];rfl
@[simp]theorem Ww(x:AV)(l:List AV):mG (x::l) 0=x:=rfl
@[simp]theorem Wx(x:AV)(l:List AV)(k:Nat):mG (x::l) (k+1)=mG l k:=rfl
@[simp]theorem Wy(x:PV)(l:List PV):fg (x::l) 0=x:=rfl
@[simp]theorem Wz(x:PV)(l:List PV)(k:Nat):fg (x::l) (k+1)=fg l k:=rfl
@[simp]theorem G0{α:Type}[Inhabited α](x:α)(l:List α):nth (x::l) 0=x:=rfl
@[simp]theorem BJ{α:Type}[Inhabited α](x:α)(l:List α)(k:Nat):nth (x::l) (k+1)=nth l k:=rfl
theorem G1(f:PV->AV)(l:List PV)(k:Nat)(h:k<l.length):mG (l.map f) k=f (fg l k):=by
 simp[mG,fg,dZ,im,dP h]
theorem G2(s:ByteArray):s=ByteArray.empty↔s.size=0:=by
 simp
@[simp]theorem WA(s:ByteArray)(k:Nat)(h:k<s.size):fg (mN s) k=.int .u8 (uN s k):=by
 have:k<s.data.toList.length:=av
 simp[fg,mN,uN,dZ,im,dP this]
theorem dc{n:Int}(h1:-9000000000000000000<=n)(h2:n<=9000000000000000000):inI .i64 n:=by
 simp only[inI,IntKind.min,IntKind.max,IntKind.signed,IntKind.bits]
 constructor<;>simp<;>omega
end
end Go.Fi
namespace Go.Fi
open Go
theorem uw{α:Type}(f:α->List PV)(s:Nat)(hf:∀x,(f x).length=s):∀l:List α,(l.flatMap f).length=l.length*s
 |[]=>by simp
 |x::l=>by rw[oV,nX,hf,uw f s hf l,il,iY];omega
theorem xw{α:Type}[Inhabited α](f:α->List PV)(s:Nat)(hf:∀x,(f x).length=s):∀(l:List α)(k:Nat),k<l.length->((l.flatMap f).drop (k*s)).take s=f (nth l k)
 |[],k,h=>by simp at h
 |x::l,0,h=>by
  simp_all
 |x::l,k+1,h=>by
  simp only[oV,BJ]
  have e:(k+1)*s=s+k*s:=by rw[iY];omega
  have e2:(f x++l.flatMap f).drop s=l.flatMap f:=by
   rw[List.drop_append_of_le_length (by rw[hf];simp),JS (by rw[hf];simp),DF]
  rw[e,<-List.drop_drop,e2];exact xw f s hf l k av
theorem OU(a b:List PV)(j:Nat)(h:j<a.length):fg (a++b) j=fg a j:=by
 simp[fg,dZ,rA h]
theorem OV(a b:List PV)(j:Nat):fg (a++b) (a.length+j)=fg b j:=by
 unfold fg;rw[dZ,tI ab,dZ];simp
theorem qI{α:Type}[Inhabited α](f:α->List PV)(s:Nat)(hf:∀x,(f x).length=s):∀(l:List α)(k j:Nat),k<l.length->j<s->fg (l.flatMap f) (k*s+j)=fg (f (nth l k)) j
 |[],k,j,h,_=>by simp at h
 |x::l,0,j,h,hj=>by
  simp only[oV,JP,eI,G0];exact OU _ _ _ (by rw[hf];exact hj)
 |x::l,k+1,j,h,hj=>by
  simp only[oV,BJ]
  have e:(k+1)*s+j=(f x).length+(k*s+j):=by rw[hf,iY];omega
  rw[e,OV];exact qI f s hf l k j av hj
theorem uy{α:Type}[Inhabited α](f:α->PV)(l:List α)(k:Nat)(h:k<l.length):fg (l.map f) k=f (nth l k):=by
 simp[fg,nth,dZ,im,dP h]
end Go.Fi
namespace Go.Fi
open Go Go.RowKit
variable[bI]
variable{fk:Fk}
section
variable{P:Program}{K K':Exit->St->Prop}{st st':St}
theorem cO{id:Nat}{x y:Code}(h:cP fk P (.seq x y) st (jh id K)):cP fk P (.block id (.seq x y)) st K:=gS h
theorem rZ{id i:Nat}{ops:Array Oper}{b:Bool}(h:cP fk P (.region i ops b) st (jh id K)):cP fk P (.block id (.region i ops b)) st K:=gS h
theorem G3{c:Code}(h:cP fk P c st K)(hk:∀e s,K e s->∃s',Lek fk s s'/\K' e s'):cP fk P c st K':=
 λB w0 a w m hs=>fe (h B w0 a w m hs) (λe a' w' ⟨st',m',h1,h2⟩=>by
  obtain⟨s',hle,hh⟩:=hk e st' h1;obtain⟨ha,h9⟩:=hle B w0 a' w' m' h2
  grind)
def qX(fk:Fk){β:Type}(F:β->Prop)(fin:β->St)(s:St):Prop:=∃y,F y/\Lek fk s (fin y)
theorem dH{β:Type}{F:β->Prop}{fin:β->St}{s:St}(y:β)(h:F y)(hle:Lek fk s (fin y)):qX fk F fin s:=⟨y,h,hle⟩
@[congr] theorem Yb{β:Type}{F:β->Prop}{fin:β->St}{s s':St}(h:s=s'):qX fk F fin s=qX fk F fin s':=by rw[h]
def oO(fk:Fk){β:Type}(id:Nat)(F:β->Prop)(fin:β->St)(K:Exit->St->Prop):Exit->St->Prop
 |.exit i,s=>if i=id then qX fk F fin s else K (.exit i) s
 |.normal,_=>False
 |e,s=>K e s
@[simp]theorem Yc{β:Type}(id i:Nat)(F:β->Prop)(fin:β->St)(s:St):oO fk id F fin K (.exit i) s=if i=id then qX fk F fin s else K (.exit i) s:=rfl
@[simp]theorem Yd{β:Type}(id:Nat)(F:β->Prop)(fin:β->St)(s:St):oO fk id F fin K .ret s=K .ret s:=rfl
@[congr] theorem Ye{β:Type}{id:Nat}{F:β->Prop}{fin:β->St}{e e':Exit}{s s':St}(h:e=e')(h2:s=s'):oO fk id F fin K e s=oO fk id F fin K e' s':=by rw[h,h2]
def gA(env:Env):List Nat->Env
 |[]=>[]
 |k::ks=>(k,get env k)::gA env ks
omit [bI] in
@[simp]theorem Yf(env:Env):gA env []=[]:=rfl
omit [bI] in
@[simp]theorem Yg(env:Env)(k:Nat)(ks:List Nat):gA env (k::ks)=(k,get env k)::gA env ks:=rfl
theorem xx{c:Code}{id:Nat}{env:Env}{h:bE}{n nt:Nat}{α β:Type}(J:α->Prop)(ks:List Nat)(mods:α->Env)(hf:α->bE)(μ:α->Nat)(F:β->Prop)(fks:List Nat)(fmods:β->Env)(ff:β->bE)(x0:α)(hJ:J x0)(h0:tc env n (mods x0++gA env ks))(h1:qW h n (hf x0))(round:∀x,J x->cP fk P c ⟨mods x++gA env ks,hf x,n,nt⟩ (lN fk J (λx=>⟨mods x++gA env ks,hf x,n,nt⟩) μ x (oO fk id F (λy=>⟨fmods y++gA env fks,ff y,n,nt⟩) K)))(after:∀y,F y->K .normal ⟨fmods y++gA env fks,ff y,n,nt⟩):cP fk P (.block id (.loop c)) ⟨env,h,n,nt⟩ K:=by
 refine Ng (λhk=>gS (G3 (Ag J (λx=>⟨mods x++gA env ks,hf x,n,nt⟩) μ x0 hJ (cD h0 h1 hk) round) (λe s hk=>?_)))
 cases e<;>first
  |exact hk.elim
  |exact⟨s,Lek.refl s,hk⟩
  |(simp only[oO] at hk
    simp only[jh];split at hk
    .rename_i h8;obtain⟨y,hy,hle⟩:=hk
     grind
    .rename_i h8
     exact⟨s,Lek.refl s,by rw[bP h8];exact hk⟩)
def u7(fk:Fk){β:Type}(F:β->Prop)(fin:β->St)(K:Exit->St->Prop):Exit->St->Prop
 |.normal,s=>qX fk F fin s
 |e,s=>K e s
@[simp]theorem Yh{β:Type}(F:β->Prop)(fin:β->St)(s:St):u7 fk F fin K .normal s=qX fk F fin s:=rfl
@[simp]theorem Yi{β:Type}(i:Nat)(F:β->Prop)(fin:β->St)(s:St):u7 fk F fin K (.exit i) s=K (.exit i) s:=rfl
@[simp]theorem Yj{β:Type}(F:β->Prop)(fin:β->St)(s:St):u7 fk F fin K .ret s=K .ret s:=rfl
@[congr] theorem Yk{β:Type}{F:β->Prop}{fin:β->St}{e e':Exit}{s s':St}(h:e=e')(h2:s=s'):u7 fk F fin K e s=u7 fk F fin K e' s':=by rw[h,h2]
end
omit [bI] in
@[simp]theorem OX(h:bE)(o f:Bool):∀l:List PV,lM h (l.map (.w o f))=some l
 |[]=>rfl
 |p::r=>by simp[lM,frz,OX h o f r]
omit [bI] in
@[simp]theorem OY(o f:Bool):∀l:List PV,nJ (l.map (.w o f))=true
 |[]=>rfl
 |p::r=>by simp[nJ,xP,OY o f r]
end Go.Fi
namespace Go.Fi
open Go Go.RowKit
open Go.Conc (G)
section
variable{P:Program}{b:Frame}{a:Act}{k:List Item}{cs:List Frame}{w:World}
theorem PU{c:Code}:stepG P true (G (b.atR a (.code (.scope c)::k)) cs) w=.go (G (b.atR a (.code c::.inScope c::k)) cs) w #[]:=by rfl
theorem PW{c:Code}:stepG P true (G (b.atR a (.inScope c::k)) cs) w=.go (G (b.atR a k) cs) w #[]:=by rfl
end
section
variable[EnvD]
variable{P:Program}{r:Option Nat}{Q:Exit->Act->World->Prop}{a:Act}{w:World}
theorem PX{c:Code}(h:c.wpT r P Q a w):(Code.scope c).wpT r P Q a w:=by
 intro b k cs hr hk;refine .quiet _ _ (λ_=>PU) dA ((h b (.inScope c::k) cs hr hk).bind ?_)
 rintro fr cs' w' ⟨rfl,e,a',hq,he⟩
 cases e with
 |normal=>subst he;exact .quiet _ _ (λ_=>PW) dA (.now ⟨rfl,.normal,a',hq,rfl⟩)
 |exit id=>
  obtain⟨k1,h1,rfl⟩:=he;exact .now ⟨rfl,.exit id,a',hq,k1,h1.trans (by simp[exitTo]),rfl⟩
 |ret=>obtain⟨k1,rfl⟩:=he;exact .now ⟨rfl,.ret,a',hq,k1,rfl⟩
 |_=>exact he.elim
end
variable[bI]
variable{fk:Fk}{P:Program}{K:Exit->St->Prop}{st:St}
theorem PY{c:Code}(h:cP fk P c st K):cP fk P (.scope c) st K:=λB w0 a w m hs=>PX (h B w0 a w m hs)
theorem PZ{l:Nat}(h:K .normal st):cP fk P (.label l) st K:=λ_ _ _ _ m hs=>LF ⟨st,m,h,hs⟩
end Go.Fi
