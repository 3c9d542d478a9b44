/- Lemmas. -/
import Derived.Test.YthpkmilhiganjaaGreatPLc
set_option linter.all false
set_option maxHeartbeats 32000000
set_option maxRecDepth 100000
namespace Go.Fi
open Go Go.RowKit
variable[bE]
variable{fk:Fk}
@[congr] theorem TW{P:Program}{c:Code}{st st':St}{K:Exit->St->Prop}(h:st=st'):cK fk P c st K=cK fk P c st' K:=by rw[h]
@[congr] theorem TX{P:Program}{ops:Array Oper}{nt:Nat}{os:List Oper}{e e':Env}{h h':bz}{n n':Nat}{K:Env->bz->Nat->Prop}(h1:e=e')(h2:h=h')(h3:n=n'):dq P ops nt os e h n K=dq P ops nt os e' h' n' K:=by rw[h1,h2,h3]
@[congr] theorem TY{P:Program}{ops:Array Oper}{nt:Nat}{os:List Oper}{e e':Env}{h h':bz}{n n':Nat}{K:Env->bz->Nat->Prop}(h1:e=e')(h2:h=h')(h3:n=n'):gh P ops nt os e h n K=gh P ops nt os e' h' n' K:=by rw[h1,h2,h3]
@[congr] theorem TZ{P:Program}{env env':Env}{h h':bz}{n n':Nat}{op:Op}{K:AV->bz->Nat->Prop}(h1:env=env')(h2:h=h')(h3:n=n'):df P env h n op K=df P env' h' n' op K:=by rw[h1,h2,h3]
@[congr] theorem T0{P:Program}{env env':Env}{h h':bz}{n n':Nat}{op:Op}{K:AV->List (List AV)->Prop}(h1:env=env')(h2:h=h')(h3:n=n'):de P env h n op K=de P env' h' n' op K:=by rw[h1,h2,h3]
@[congr] theorem T3{P:Program}{g:FuncId}{args h5:List PV}{K:PV->Bool->Prop}{K2:List (List AV)->AV->Prop}{mk:Mark (K,K2)}(h:args=h5):CW P g args K K2 mk=CW P g h5 K K2 mk:=by rw[h]
def aW(r:Option (Prop×AV×List (List AV)))(K:AV->List (List AV)->Prop)(_:Mark K):Prop:=
 match r with
 |some (c,v,E)=>c/\K v E
 |none=>False
section
omit [bE]
@[congr] theorem T4{r r':Option (Prop×AV×List (List AV))}{K:AV->List (List AV)->Prop}{mk:Mark K}(h:r=r'):aW r K mk=aW r' K mk:=by rw[h]
@[simp]theorem T5(c:Prop)(v:AV)(E:List (List AV))(K:AV->List (List AV)->Prop)(mk:Mark K):aW (some (c,v,E)) K mk=(c/\K v E):=rfl
@[simp]theorem T6(K:AV->List (List AV)->Prop)(mk:Mark K):aW none K mk=False:=rfl
end
section
variable{P:Program}{ops:Array Oper}{nt:Nat}{env:Env}{h:bz}{n:Nat}
@[simp ↓]theorem T7(K:Env->bz->Nat->Prop):dq P ops nt [] env h n K=K env h n:=rfl
@[simp ↓]theorem T8(K:Env->bz->Nat->Prop):gh P ops nt [] env h n K=K env h n:=rfl
section
omit [bE]
@[simp]theorem T9(d:Nat):dOk nt (some d)=(d<nt):=rfl
@[simp]theorem Ua:dOk nt none=True:=rfl
@[simp]theorem Ub(d:Nat)(v:AV):put env (some d) v=(d,v)::env:=rfl
@[simp]theorem Uc(v:AV):put env none v=env:=rfl
@[simp]theorem Ud:ck h n []=h:=rfl
@[simp]theorem Ue(c:List AV):ck h n [c]=(n,c)::h:=rfl
@[simp]theorem Uf(t:Nat):get [] t=.w false false .undef:=rfl
@[simp]theorem Ug(k t:Nat)(v:AV):get ((k,v)::env) t=if k=t then v else get env t:=rfl
@[simp]theorem Uh(k t:Nat)(v:List AV):bY ((k,v)::h) t=if k=t then some v else bY h t:=rfl
@[simp]theorem Ui(t:Nat):bY [] t=none:=rfl
@[simp]theorem Uj(k t:Nat)(v x:List AV):dm ((k,v)::h) t x=if k=t then (k,x)::h else (k,v)::dm h t x:=rfl
@[simp]theorem Uk(t:Nat):ev env (.tmp t)=get env t:=rfl
@[simp]theorem Ul(v:Value):ev env (.const v)=cst v:=rfl
@[simp]theorem Um(f:FuncId):ev env (.func f)=.fn f []:=rfl
end
attribute [simp] cst m8
@[simp ↓]theorem Un(dst:Option Tmp)(op:Op)(ty:TypeId)(pos:String)(after:Array Edge)(os:List Oper)(K:Env->bz->Nat->Prop):dq P ops nt (⟨dst,op,ty,pos,after,none⟩::os) env h n K=(dOk nt dst/\df P env h n op λv h' n'=>dq P ops nt os (put env dst v) h' n' K):=by
 simp[dq,gd]
@[simp ↓]theorem Uo(dst:Option Tmp)(op:Op)(ty:TypeId)(pos:String)(after:Array Edge)(os:List Oper)(K:Env->bz->Nat->Prop):gh P ops nt (⟨dst,op,ty,pos,after,none⟩::os) env h n K=(dOk nt dst/\de P env h n op λv E=>gh P ops nt os (put env dst v) (ck h n E) (n+E.length) K):=by
 simp[gh,gd]
def gW(g:Option Bool)(X Y:Prop):Prop:=
 match g with
 |some b=>(b=true->X)/\(b=false->Y)
 |none=>False
section
omit [bE]
@[congr] theorem Up{g g':Option Bool}{X Y:Prop}(h:g=g'):gW g X Y=gW g' X Y:=by rw[h]
@[simp]theorem AZ(X Y:Prop):gW (some true) X Y=X:=by simp[gW]
@[simp]theorem Gi(X Y:Prop):gW (some false) X Y=Y:=by simp[gW]
end
def uH(v:AV)(want:Bool):Option Bool:=
 match v with
 |.w _ _ (.bool b)=>some (b==want)
 |.tup []=>some false
 |_=>none
omit [bE] in
@[simp]theorem Uq(o f b want:Bool):uH (.w o f (.bool b)) want=some (b==want):=rfl
omit [bE] in
@[simp]theorem Ur(want:Bool):uH (.tup []) want=some false:=rfl
def gOf(ops:Array Oper)(env:Env)(j:Nat)(want:Bool):Option Bool:=
 match dV ops j with
 |none=>some false
 |some t=>uH (get env t) want
omit [bE] in
theorem A7(dst:Option Tmp)(op:Op)(ty:TypeId)(pos:String)(after:Array Edge)(j:Nat)(want:Bool):gd ops env ⟨dst,op,ty,pos,after,some (j,want)⟩=gOf ops env j want:=by
 rfl
theorem Og(dst:Option Tmp)(op:Op)(ty:TypeId)(pos:String)(after:Array Edge)(j:Nat)(want:Bool)(os:List Oper)(K:Env->bz->Nat->Prop):dq P ops nt (⟨dst,op,ty,pos,after,some (j,want)⟩::os) env h n K=(dOk nt dst/\gW (gOf ops env j want) (df P env h n op λv h' n'=>dq P ops nt os (put env dst v) h' n' K) (dq P ops nt os (put env dst (.tup [])) h n K)):=by
 conv=>lhs;unfold dq
 rw[A7]
 cases gOf ops env j want<;>simp[gW]
theorem Oh(dst:Option Tmp)(op:Op)(ty:TypeId)(pos:String)(after:Array Edge)(j:Nat)(want:Bool)(os:List Oper)(K:Env->bz->Nat->Prop):gh P ops nt (⟨dst,op,ty,pos,after,some (j,want)⟩::os) env h n K=(dOk nt dst/\gW (gOf ops env j want) (de P env h n op λv E=>gh P ops nt os (put env dst v) (ck h n E) (n+E.length) K) (gh P ops nt os (put env dst (.tup [])) h n K)):=by
 conv=>lhs;unfold gh
 rw[A7]
 cases gOf ops env j want<;>simp[gW]
def gM(g:Option Bool)(X Y:Prop)(_:Mark (X,Y)):Prop:=gW g X Y
omit [bE] in
@[congr] theorem Us{g g':Option Bool}{X Y:Prop}{mk:Mark (X,Y)}(h:g=g'):gM g X Y mk=gM g' X Y mk:=by rw[h]
def gE(g:Option Bool)(P:Program)(env:Env)(h:bz)(n:Nat)(op:Op)(K:AV->bz->Nat->Prop)(_:Mark K):Prop:=gW g (df P env h n op K) (K (.tup []) h n)
def gQ(g:Option Bool)(P:Program)(env:Env)(h:bz)(n:Nat)(op:Op)(K:AV->List (List AV)->Prop)(_:Mark K):Prop:=gW g (de P env h n op K) (K (.tup []) [])
@[congr] theorem Ut{g g':Option Bool}{P:Program}{env env':Env}{h h':bz}{n n':Nat}{op:Op}{K:AV->bz->Nat->Prop}{mk:Mark K}(e1:g=g')(e2:env=env')(e3:h=h')(e4:n=n'):gE g P env h n op K mk=gE g' P env' h' n' op K mk:=by rw[e1,e2,e3,e4]
@[congr] theorem Uu{g g':Option Bool}{P:Program}{env env':Env}{h h':bz}{n n':Nat}{op:Op}{K:AV->List (List AV)->Prop}{mk:Mark K}(e1:g=g')(e2:env=env')(e3:h=h')(e4:n=n'):gQ g P env h n op K mk=gQ g' P env' h' n' op K mk:=by rw[e1,e2,e3,e4]
section
variable{op:Op}{K:AV->bz->Nat->Prop}{mk:Mark K}{Kq:AV->List (List AV)->Prop}{mkq:Mark Kq}{b:Bool}{p:Prop}[Decidable p]
@[simp]theorem Uv:gE (some true) P env h n op K mk=df P env h n op K:=by unfold gE;exact AZ _ _
@[simp]theorem Uw:gE (some false) P env h n op K mk=K (.tup []) h n:=by unfold gE;exact Gi _ _
@[simp]theorem Ux:gQ (some true) P env h n op Kq mkq=de P env h n op Kq:=by unfold gQ;exact AZ _ _
@[simp]theorem Uy:gQ (some false) P env h n op Kq mkq=Kq (.tup []) []:=by unfold gQ;exact Gi _ _
theorem wS(hx:b=true->df P env h n op K)(hy:b=false->K (.tup []) h n):gE (some b) P env h n op K mk:=⟨hx,hy⟩
theorem wT(hx:b=false->df P env h n op K)(hy:b=true->K (.tup []) h n):gE (some (!b)) P env h n op K mk:=⟨λh=>hx av,λh=>hy av⟩
theorem Oi(hx:p->df P env h n op K)(hy:¬p->K (.tup []) h n):gE (some (decide p)) P env h n op K mk:=⟨λh=>hx av,λh=>hy av⟩
theorem Oj(hx:¬p->df P env h n op K)(hy:p->K (.tup []) h n):gE (some (!decide p)) P env h n op K mk:=⟨λh=>hx av,λh=>hy av⟩
end
section
variable{dst:Option Tmp}{op:Op}{ty:TypeId}{pos:String}{after:Array Edge}{j:Nat}{want:Bool}{os:List Oper}
@[simp ↓]theorem Uz{K:Env->bz->Nat->Prop}:dq P ops nt (⟨dst,op,ty,pos,after,some (j,want)⟩::os) env h n K=(dOk nt dst/\gE (gOf ops env j want) P env h n op (λv h' n'=>dq P ops nt os (put env dst v) h' n' K) .it):=Og ..
@[simp ↓]theorem UA{K:Env->bz->Nat->Prop}:gh P ops nt (⟨dst,op,ty,pos,after,some (j,want)⟩::os) env h n K=(dOk nt dst/\gQ (gOf ops env j want) P env h n op (λv E=>gh P ops nt os (put env dst v) (ck h n E) (n+E.length) K) .it):=Oh ..
end
def nB:List Oper->Nat->Option Tmp
 |[],_=>none
 |o::_,0=>o.dst
 |_::r,k+1=>nB r k
omit [bE] in
@[simp]theorem UB(o:Oper)(r:List Oper):nB (o::r) 0=o.dst:=by rw[nB]
omit [bE] in
@[simp]theorem UC(o:Oper)(r:List Oper)(k:Nat):nB (o::r) (k+1)=nB r k:=by rw[nB]
def gV(env:Env)(d:Option Tmp)(want:Bool):Option Bool:=
 match d with
 |none=>some false
 |some t=>uH (get env t) want
section
omit [bE]
@[simp]theorem UD(t:Tmp)(want:Bool):gV env (some t) want=uH (get env t) want:=rfl
theorem Gj:∀(l:List Oper)(j:Nat),nB l j=(l[j]?).bind (·.dst)
 |[],j=>by simp[nB]
 |o::r,0=>rfl
 |o::r,j+1=>by simp only[nB,sG];exact Gj r j
@[simp]theorem UE(l:List Oper)(j:Nat)(want:Bool):gOf l.toArray env j want=gV env (nB l j) want:=by
 unfold gOf dV gV;rw[xW,Gj]
 cases (l[j]?).bind (·.dst)<;>rfl
end
@[simp ↓]theorem UF(x:Operand)(K:AV->bz->Nat->Prop):df P env h n (.move x) K=K (ev env x) h n:=by simp[df,de,aOp]
@[simp ↓]theorem UG(x:Operand)(K:AV->bz->Nat->Prop):df P env h n (.assign x) K=K (ev env x) h n:=by simp[df,de,aOp]
@[simp ↓]theorem UH(x:Operand)(K:AV->List (List AV)->Prop):de P env h n (.move x) K=K (ev env x) []:=by simp[de,aOp]
@[simp ↓]theorem UI(x:Operand)(K:AV->List (List AV)->Prop):de P env h n (.assign x) K=K (ev env x) []:=by simp[de,aOp]
end
def Cy(h:bz)(ty:Option (Nat×Bool))(ad x:AV):Option (Prop×bz):=
 match ty,ad with
 |some (sz,_),.ptr id ver off=>
  match bY h id with
  |some cells=>some ((cells.length=ver/\x.ok=true/\x.cells.length=sz/\off+sz<=cells.length/\eD x.cells=true),dm h id (setAt cells off x.cells))
  |none=>none
 |_,_=>none
def Cz(P:Program)(h:bz)(n:Nat)(t tx:TypeId)(s x:AV):Option (Prop×AV×bz×Nat):=
 match slE P t,slE P tx with
 |some (e,sz),some _=>
  match byE P e,fu P e,iu h sz x with
  |some by_,some z,some (k2,news,c)=>
   match s with
   |.msl id ver z' off k=>
    match bY h id with
    |some cells=>some ((c/\off=0/\cells.length=ver/\z'=sz/\z.length=sz/\0<sz/\k*sz<=ver/\k+k2<=1000000000/\by_<=100000/\eD news=true),
      .msl id (iv cells (k*sz) news).length sz 0 (k+k2),dm h id (iv cells (k*sz) news),n)
    |none=>none
   |.w own true (.sl k cells)=>
    bif own&&decide (k=0)&&cells.isEmpty then some ((c/\0<k2/\z.length=sz/\0<sz/\k2<=1000000000/\by_<=100000),.msl n news.length sz 0 k2,(n,news)::h,n+1)
    else match pvs news with
     |some q=>some ((c/\cells.length=k*sz/\z.length=sz/\0<sz/\k+k2<=1000000000/\by_<=100000),.w (gA q&&(own || cells.isEmpty)) false (.sl (k+k2) (cells++q)),h,n)
     |none=>none
   |_=>none
  |_,_,_=>none
 |_,_=>none
def CB(P:Program)(h:bz)(n:Nat)(args:List AV)(tys:List TypeId):Option (Prop×AV×bz×Nat):=
 match args,tys with
 |[s,x],[t,tx]=>Cz P h n t tx s x
 |_,_=>none
def sM(r:Option (Prop×bz))(n:Nat)(K:AV->bz->Nat->Prop)(_:Mark K):Prop:=
 match r with
 |some (c,h')=>c/\K (.tup []) h' n
 |none=>False
def pM(r:Option (Prop×AV×bz×Nat))(K:AV->bz->Nat->Prop)(_:Mark K):Prop:=
 match r with
 |some (c,v,h',n')=>c/\K v h' n'
 |none=>False
section
omit [bE]
@[congr] theorem UJ{r r':Option (Prop×bz)}{n n':Nat}{K:AV->bz->Nat->Prop}{mk:Mark K}(h:r=r')(h2:n=n'):sM r n K mk=sM r' n' K mk:=by rw[h,h2]
@[congr] theorem UK{r r':Option (Prop×AV×bz×Nat)}{K:AV->bz->Nat->Prop}{mk:Mark K}(h:r=r'):pM r K mk=pM r' K mk:=by rw[h]
@[simp]theorem UL(c:Prop)(h':bz)(n:Nat)(K:AV->bz->Nat->Prop)(mk:Mark K):sM (some (c,h')) n K mk=(c/\K (.tup []) h' n):=rfl
@[simp]theorem UM(c:Prop)(v:AV)(h':bz)(n':Nat)(K:AV->bz->Nat->Prop)(mk:Mark K):pM (some (c,v,h',n')) K mk=(c/\K v h' n'):=rfl
end
@[simp ↓]theorem UN{P:Program}{env:Env}{h:bz}{n:Nat}(t:TypeId)(ad x:Operand)(K:AV->bz->Nat->Prop):df P env h n (.store t ad x) K=sM (Cy h (tyL P t) (ev env ad) (ev env x)) n K .it:=by
 show nZ P env h n t ad x K=_;unfold nZ Cy
 cases tyL P t with
 |none=>cases ev env ad<;>rfl
 |some y=>
  obtain⟨sz,g⟩:=y
  cases ev env ad with
  |ptr id ver off=>dsimp only;cases bY h id<;>rfl
  |_=>rfl
@[simp ↓]theorem UO{P:Program}{env:Env}{h:bz}{n:Nat}(args:Array Operand)(tys:Array TypeId)(K:AV->bz->Nat->Prop):df P env h n (.call ⟨.builtin .append,args,tys⟩) K=pM (CB P h n (args.toList.map (ev env)) tys.toList) K .it:=by
 show nY P env h n args.toList tys.toList K=_;generalize args.toList=la;generalize tys.toList=lt;unfold nY CB
 match la,lt with
 |[s,x],[t,tx]=>
  simp only[List.map];unfold Cz
  cases slE P t with
  |none=>rfl
  |some y=>
   obtain⟨e,sz⟩:=y
   cases slE P tx with
   |none=>rfl
   |some y2=>
    dsimp only
    cases byE P e with
    |none=>rfl
    |some by_=>
     cases fu P e with
     |none=>rfl
     |some z=>
      cases iu h sz (ev env x) with
      |none=>rfl
      |some y3=>
       obtain⟨k2,news,c⟩:=y3;dsimp only
       cases ev env s with
       |msl id ver z' off k=>dsimp only;cases bY h id<;>rfl
       |w own f p=>
        cases f with
        |false=>rfl
        |true=>
         cases p with
         |sl k cells=>
          dsimp only
          cases (own&&decide (k=0)&&cells.isEmpty) with
          |true=>rfl
          |false=>simp only[cond_false];cases pvs news<;>rfl
         |_=>rfl
       |_=>rfl
 |[],_=>simp[pM]
 |[_],_=>simp[pM]
 |_::_::_::_,_=>simp[pM]
 |[_,_],[]=>simp[pM]
 |[_,_],[_]=>simp[pM]
 |[_,_],_::_::_::_=>simp[pM]
@[simp ↓]theorem UP{P:Program}{env:Env}{h:bz}{n:Nat}(args:Array Operand)(tys:Array TypeId)(K:AV->bz->Nat->Prop):df P env h n (.call ⟨.builtin .copy,args,tys⟩) K=pM ((rP P h (args.toList.map (ev env)) tys.toList).map λy=>(y.1,y.2.1,y.2.2,n)) K .it:=by
 show n9 P env h n args.toList tys.toList K=_;unfold n9
 cases rP P h (args.toList.map (ev env)) tys.toList with
 |none=>rfl
 |some y=>rfl
attribute [simp] rP pf shr
def eK(h:bz)(n:Nat)(K:AV->bz->Nat->Prop):AV->List (List AV)->Prop:=λv E=>K v (ck h n E) (n+E.length)
omit [bE] in
@[simp ↓]theorem UQ(h:bz)(n:Nat)(K:AV->bz->Nat->Prop)(v:AV):eK h n K v []=K v h n:=by rfl
omit [bE] in
@[simp ↓]theorem UR(h:bz)(n:Nat)(K:AV->bz->Nat->Prop)(v:AV)(c:List AV):eK h n K v [c]=K v ((n,c)::h) (n+1):=by rfl
section
variable{P:Program}{env:Env}{h:bz}{n:Nat}(K:AV->bz->Nat->Prop)(Kq:AV->List (List AV)->Prop)
def gdV(b:Bool)(v:AV):AV:=bif b then v else .tup []
omit [bE] in
@[simp]theorem Ok(v:AV):gdV true v=v:=rfl
omit [bE] in
@[simp]theorem US(v:AV):gdV false v=.tup []:=rfl
def pkW(c x y:AV)(K:AV->List (List AV)->Prop)(_:Mark K):Prop:=
 match c with
 |.w _ _ (.bool t)=>
  match x,y with
  |.w _ _ (.bool a),.w _ _ (.bool b)=>K (.w false false (.bool (bif t then a else b))) []
  |x,y=>K (bif t then x else y) []
 |_=>False
omit [bE] in
@[congr] theorem UT{c c' x x' y y':AV}{K:AV->List (List AV)->Prop}{mk:Mark K}(h1:c=c')(h2:x=x')(h3:y=y'):pkW c x y K mk=pkW c' x' y' K mk:=by rw[h1,h2,h3]
section
variable{K:AV->List (List AV)->Prop}{mk:Mark K}
section
omit [bE]
@[simp]theorem UU(o f t o1 f1 a o2 f2 b:Bool):pkW (.w o f (.bool t)) (.w o1 f1 (.bool a)) (.w o2 f2 (.bool b)) K mk=K (.w false false (.bool (bif t then a else b))) []:=rfl
@[simp]theorem UW(o f c g o1 f1 a b:Bool)(hg:c=g):pkW (.w o f (.bool c)) (gdV g (.w o1 f1 (.bool a))) (.w false false (.bool b)) K mk=K (.w false false (.bool (bif c then a else b))) []:=by
 subst hg;cases c<;>rfl
@[simp]theorem UX(o f t:Bool)(l:List AV)(y:AV):pkW (.w o f (.bool t)) (.tup l) y K mk=K (bif t then .tup l else y) []:=rfl
@[simp]theorem UY(o f t:Bool)(l:List AV)(x:AV):pkW (.w o f (.bool t)) x (.tup l) K mk=K (bif t then x else .tup l) []:=by
 unfold pkW;simp only
end
@[simp ↓]theorem Ol(c x y:Operand):de P env h n (.pick c x y) K=pkW (ev env c) (ev env x) (ev env y) K .it:=by
 simp only[de,aOp,pkW];generalize ev env c=cv;generalize ev env x=xv;generalize ev env y=yv
 cases cv with
 |w o f v=>
  cases v with
  |bool t=>
   simp only;split
   .rename_i e1;split at e1<;>(injection e1 with e1;injection e1 with e1 e;injection e with e2 e3;subst e1;subst e2;subst e3;simp)
   .rename_i e1;split at e1<;>cases e1
  |_=>rfl
 |_=>rfl
@[simp ↓]theorem UZ(c x y:Operand)(K:AV->bz->Nat->Prop):df P env h n (.pick c x y) K=pkW (ev env c) (ev env x) (ev env y) (eK h n K) .it:=by
 rw[<-Ol];rfl
end
@[simp ↓]theorem U0(t:TypeId):df P env h n (.alloc t) K=aW (aOp P h n (ev env) (.alloc t)) (eK h n K) .it:=rfl
@[simp ↓]theorem U1(t:TypeId):de P env h n (.alloc t) Kq=aW (aOp P h n (ev env) (.alloc t)) Kq .it:=rfl
@[simp ↓]theorem zcl(t:TypeId)(x:Operand):df P env h n (.box t x) K=aW (aOp P h n (ev env) (.box t x)) (eK h n K) .it:=rfl
@[simp ↓]theorem zcm(t:TypeId)(x:Operand):de P env h n (.box t x) Kq=aW (aOp P h n (ev env) (.box t x)) Kq .it:=rfl
@[simp ↓]theorem U2(t:TypeId)(ps:Array (Nat×Operand)):df P env h n (.build t ps) K=aW (aOp P h n (ev env) (.build t ps)) (eK h n K) .it:=rfl
@[simp ↓]theorem U3(t:TypeId)(ps:Array (Nat×Operand)):de P env h n (.build t ps) Kq=aW (aOp P h n (ev env) (.build t ps)) Kq .it:=rfl
@[simp ↓]theorem U4(t:TypeId)(l:Nat)(ps:Array (Nat×Operand)):df P env h n (.buildSlice t l ps) K=aW (aOp P h n (ev env) (.buildSlice t l ps)) (eK h n K) .it:=rfl
@[simp ↓]theorem U5(t:TypeId)(l:Nat)(ps:Array (Nat×Operand)):de P env h n (.buildSlice t l ps) Kq=aW (aOp P h n (ev env) (.buildSlice t l ps)) Kq .it:=rfl
@[simp ↓]theorem U6(t:TypeId)(x:Operand):df P env h n (.load t x) K=aW (aOp P h n (ev env) (.load t x)) (eK h n K) .it:=rfl
@[simp ↓]theorem U7(t:TypeId)(x:Operand):de P env h n (.load t x) Kq=aW (aOp P h n (ev env) (.load t x)) Kq .it:=rfl
@[simp ↓]theorem U8(x:Operand):df P env h n (.nilCheck x) K=aW (aOp P h n (ev env) (.nilCheck x)) (eK h n K) .it:=rfl
@[simp ↓]theorem U9(x:Operand):de P env h n (.nilCheck x) Kq=aW (aOp P h n (ev env) (.nilCheck x)) Kq .it:=rfl
@[simp ↓]theorem Va(op:BinOp)(t:TypeId)(x y:Operand)(yt:TypeId):df P env h n (.binOp op t x y yt) K=aW (aOp P h n (ev env) (.binOp op t x y yt)) (eK h n K) .it:=rfl
@[simp ↓]theorem Vb(op:BinOp)(t:TypeId)(x y:Operand)(yt:TypeId):de P env h n (.binOp op t x y yt) Kq=aW (aOp P h n (ev env) (.binOp op t x y yt)) Kq .it:=rfl
@[simp ↓]theorem Vd(op:UnOp)(t:TypeId)(x:Operand):df P env h n (.unOp op t x) K=aW (aOp P h n (ev env) (.unOp op t x)) (eK h n K) .it:=rfl
@[simp ↓]theorem Ve(op:UnOp)(t:TypeId)(x:Operand):de P env h n (.unOp op t x) Kq=aW (aOp P h n (ev env) (.unOp op t x)) Kq .it:=rfl
def cvW(P:Program)(env:Env)(h:bz)(n:Nat)(src dst:TypeId)(x:Operand)(v:AV)(K:AV->bz->Nat->Prop)(_:Mark K):Prop:=
 match v with
 |.w _ _ (.str s)=>rR P src dst=true/\K (.w true false (.sl s.size (mg s))) h n
 |_=>de P env h n (.convert src dst x) λv E=>K v (ck h n E) (n+E.length)
@[congr] theorem Vf{P:Program}{env:Env}{h:bz}{n:Nat}{src dst:TypeId}{x:Operand}{v v':AV}{K:AV->bz->Nat->Prop}{mk:Mark K}(e:v=v'):cvW P env h n src dst x v K mk=cvW P env h n src dst x v' K mk:=by rw[e]
@[simp]theorem Vg(src dst:TypeId)(x:Operand)(o f:Bool)(s:ByteArray)(K:AV->bz->Nat->Prop)(mk:Mark K):cvW P env h n src dst x (.w o f (.str s)) K mk=(rR P src dst=true/\K (.w true false (.sl s.size (mg s))) h n):=rfl
@[simp]theorem Vh(src dst:TypeId)(x:Operand)(o f:Bool)(k:IntKind)(a:Int)(K:AV->bz->Nat->Prop)(mk:Mark K):cvW P env h n src dst x (.w o f (.int k a)) K mk=aW (aOp P h n (ev env) (.convert src dst x)) (eK h n K) .it:=rfl
omit [bE] in
@[simp]theorem Vi(s:ByteArray):(mg s).length=s.size:=by simp[mg]
@[simp ↓]theorem Vj(s d:TypeId)(x:Operand):df P env h n (.convert s d x) K=cvW P env h n s d x (ev env x) K .it:=rfl
@[simp ↓]theorem Vk(s d:TypeId)(x:Operand):de P env h n (.convert s d x) Kq=aW (aOp P h n (ev env) (.convert s d x)) Kq .it:=rfl
@[simp ↓]theorem Vl(t:TypeId)(x:Operand):df P env h n (.makeInterface t x) K=aW (aOp P h n (ev env) (.makeInterface t x)) (eK h n K) .it:=rfl
@[simp ↓]theorem Vm(t:TypeId)(x:Operand):de P env h n (.makeInterface t x) Kq=aW (aOp P h n (ev env) (.makeInterface t x)) Kq .it:=rfl
@[simp ↓]theorem Vn(f:Fn)(a b:Array Operand):df P env h n (.makeFunc f a b) K=aW (aOp P h n (ev env) (.makeFunc f a b)) (eK h n K) .it:=rfl
@[simp ↓]theorem Vo(f:Fn)(a b:Array Operand):de P env h n (.makeFunc f a b) Kq=aW (aOp P h n (ev env) (.makeFunc f a b)) Kq .it:=rfl
@[simp ↓]theorem Vp(t:TypeId)(x y:Operand):df P env h n (.makeSlice t x y) K=aW (aOp P h n (ev env) (.makeSlice t x y)) (eK h n K) .it:=rfl
@[simp ↓]theorem Vq(t:TypeId)(x y:Operand):de P env h n (.makeSlice t x y) Kq=aW (aOp P h n (ev env) (.makeSlice t x y)) Kq .it:=rfl
@[simp ↓]theorem Vr(t:TypeId)(x:Operand)(l u m:Option Operand):df P env h n (.slice t x l u m) K=aW (aOp P h n (ev env) (.slice t x l u m)) (eK h n K) .it:=rfl
@[simp ↓]theorem Vs(t:TypeId)(x:Operand)(l u m:Option Operand):de P env h n (.slice t x l u m) Kq=aW (aOp P h n (ev env) (.slice t x l u m)) Kq .it:=rfl
@[simp ↓]theorem Vt(t:TypeId)(x:Operand)(f:Nat):df P env h n (.fieldAddr t x f) K=aW (aOp P h n (ev env) (.fieldAddr t x f)) (eK h n K) .it:=rfl
@[simp ↓]theorem Vu(t:TypeId)(x:Operand)(f:Nat):de P env h n (.fieldAddr t x f) Kq=aW (aOp P h n (ev env) (.fieldAddr t x f)) Kq .it:=rfl
@[simp ↓]theorem Vv(t:TypeId)(x:Operand)(f:Nat):df P env h n (.field t x f) K=aW (aOp P h n (ev env) (.field t x f)) (eK h n K) .it:=rfl
@[simp ↓]theorem Vw(t:TypeId)(x:Operand)(f:Nat):de P env h n (.field t x f) Kq=aW (aOp P h n (ev env) (.field t x f)) Kq .it:=rfl
@[simp ↓]theorem Vx(t:TypeId)(x i:Operand):df P env h n (.indexAddr t x i) K=aW (aOp P h n (ev env) (.indexAddr t x i)) (eK h n K) .it:=rfl
@[simp ↓]theorem Vy(t:TypeId)(x i:Operand):de P env h n (.indexAddr t x i) Kq=aW (aOp P h n (ev env) (.indexAddr t x i)) Kq .it:=rfl
@[simp ↓]theorem Vz(t:TypeId)(x i:Operand):df P env h n (.index t x i) K=aW (aOp P h n (ev env) (.index t x i)) (eK h n K) .it:=rfl
@[simp ↓]theorem VA(t:TypeId)(x i:Operand):de P env h n (.index t x i) Kq=aW (aOp P h n (ev env) (.index t x i)) Kq .it:=rfl
@[simp ↓]theorem VB(x:Operand)(i:Nat):df P env h n (.extract x i) K=aW (aOp P h n (ev env) (.extract x i)) (eK h n K) .it:=rfl
@[simp ↓]theorem VC(x:Operand)(i:Nat):de P env h n (.extract x i) Kq=aW (aOp P h n (ev env) (.extract x i)) Kq .it:=rfl
@[simp ↓]theorem zcn(a:Array Operand)(t:Array TypeId):df P env h n (.call ⟨.builtin .len,a,t⟩) K=aW (aOp P h n (ev env) (.call ⟨.builtin .len,a,t⟩)) (eK h n K) .it:=rfl
@[simp ↓]theorem zco(a:Array Operand)(t:Array TypeId):de P env h n (.call ⟨.builtin .len,a,t⟩) Kq=aW (aOp P h n (ev env) (.call ⟨.builtin .len,a,t⟩)) Kq .it:=rfl
@[simp ↓]theorem zcp(a:Array Operand)(t:Array TypeId):df P env h n (.call ⟨.builtin .max,a,t⟩) K=aW (aOp P h n (ev env) (.call ⟨.builtin .max,a,t⟩)) (eK h n K) .it:=rfl
@[simp ↓]theorem zcq(a:Array Operand)(t:Array TypeId):de P env h n (.call ⟨.builtin .max,a,t⟩) Kq=aW (aOp P h n (ev env) (.call ⟨.builtin .max,a,t⟩)) Kq .it:=rfl
@[simp ↓]theorem zcr(a:Array Operand)(t:Array TypeId):df P env h n (.call ⟨.builtin .min,a,t⟩) K=aW (aOp P h n (ev env) (.call ⟨.builtin .min,a,t⟩)) (eK h n K) .it:=rfl
@[simp ↓]theorem zcs(a:Array Operand)(t:Array TypeId):de P env h n (.call ⟨.builtin .min,a,t⟩) Kq=aW (aOp P h n (ev env) (.call ⟨.builtin .min,a,t⟩)) Kq .it:=rfl
@[simp ↓]theorem VD(a:Array Operand)(t:Array TypeId):de P env h n (.call ⟨.builtin .append,a,t⟩) Kq=aW (aOp P h n (ev env) (.call ⟨.builtin .append,a,t⟩)) Kq .it:=rfl
def cW(P:Program)(h:bz)(n:Nat)(f:Option (FuncId×List AV))(args:List AV)(K:AV->List (List AV)->Prop)(_:Mark K):Prop:=
 match f with
 |some (g,bT)=>rO P h n g (args++bT) K
 |none=>False
@[congr] theorem VE{P:Program}{h h':bz}{n:Nat}{f f':Option (FuncId×List AV)}{args h5:List AV}{K:AV->List (List AV)->Prop}{mk:Mark K}(h0:h=h')(h1:f=f')(h2:args=h5):cW P h n f args K mk=cW P h' n f' h5 K mk:=by rw[h0,h1,h2]
@[simp ↓]theorem VF(f:Operand)(a:Array Operand)(t:Array TypeId):df P env h n (.call ⟨.value f,a,t⟩) K=cW P h n (fU (ev env f)) (a.toList.map (ev env)) (eK h n K) .it:=by
 rfl
@[simp ↓]theorem VG(f:Operand)(a:Array Operand)(t:Array TypeId):de P env h n (.call ⟨.value f,a,t⟩) Kq=cW P h n (fU (ev env f)) (a.toList.map (ev env)) Kq .it:=by
 rfl
def fW(P:Program)(n:Nat)(g:FuncId)(a:Option (List PV))(pure:Bool)(K:AV->List (List AV)->Prop)(_:Mark K):Prop:=
 match a with
 |some pvs=>CW P g pvs (λres fr=>(fr=true\/pure=true)/\K (.w (pd fr res) false res) []) (λE v=>K (v.sh n) (E.map (AV.sh.shL n))) .it
 |none=>False
@[congr] theorem VH{P:Program}{n:Nat}{g:FuncId}{a a':Option (List PV)}{p p':Bool}{K:AV->List (List AV)->Prop}{mk:Mark K}(h0:a=a')(h1:p=p'):fW P n g a p K mk=fW P n g a' p' K mk:=by rw[h0,h1]
@[simp]theorem VI(g:FuncId)(bT args:List AV)(mk:Mark Kq):cW P h n (some (g,bT)) args Kq mk=fW P n g (lB h (args++bT)) (na (args++bT)) Kq .it:=rfl
@[simp]theorem VJ(g:FuncId)(pvs:List PV)(p:Bool)(mk:Mark Kq):fW P n g (some pvs) p Kq mk=CW P g pvs (λres fr=>(fr=true\/p=true)/\Kq (.w (pd fr res) false res) []) (λE v=>Kq (v.sh n) (E.map (AV.sh.shL n))) .it:=rfl
end
theorem cw{P:Program}{g:FuncId}{args:List PV}{K:PV->Bool->Prop}{K2:List (List AV)->AV->Prop}{res:PV}{fr:Bool}{mk:Mark (K,K2)}(h:bX P g args res fr)(hk:K res fr):CW P g args K K2 mk:=.inl ⟨res,fr,h,hk⟩
theorem cwM{P:Program}{g:FuncId}{args:List PV}{K:PV->Bool->Prop}{K2:List (List AV)->AV->Prop}{E:List (List AV)}{v:AV}{mk:Mark (K,K2)}(h:mf P g args E v)(hk:K2 E v):CW P g args K K2 mk:=.inr ⟨E,v,h,hk⟩
section
omit [bE]
@[simp]theorem Tb(n:Nat)(o f:Bool)(p:PV):AV.sh n (.w o f p)=.w o f p:=rfl
@[simp]theorem Om(n id v off:Nat):AV.sh n (.ptr id v off)=.ptr (id+n) v off:=rfl
@[simp]theorem Gk(n id v sz off k:Nat):AV.sh n (.msl id v sz off k)=.msl (id+n) v sz off k:=rfl
@[simp]theorem On(n:Nat)(cs:List AV):AV.sh n (.agg cs)=.agg (AV.sh.shL n cs):=rfl
@[simp]theorem Oo(n:Nat)(cs:List AV):AV.sh n (.tup cs)=.tup (AV.sh.shL n cs):=rfl
@[simp]theorem VK(n:Nat):AV.sh.shL n []=[]:=rfl
@[simp]theorem Oq(n:Nat)(x:AV)(r:List AV):AV.sh.shL n (x::r)=x.sh n::AV.sh.shL n r:=rfl
end
@[simp ↓]theorem VL(P:Program)(b:Code)(K:Exit->St->Prop)(s:St):rT fk P b K .normal s=cK fk P b s K:=rfl
@[simp ↓]theorem VM(P:Program)(b:Code)(K:Exit->St->Prop)(s:St):rT fk P b K .ret s=K .ret s:=rfl
@[simp ↓]theorem VN(P:Program)(b:Code)(K:Exit->St->Prop)(id:Nat)(s:St):rT fk P b K (.exit id) s=K (.exit id) s:=rfl
section
omit [bE]
@[simp ↓]theorem VO(i:Nat)(K:Exit->St->Prop)(s:St):iB i K .normal s=K .normal s:=rfl
@[simp ↓]theorem VP(i:Nat)(K:Exit->St->Prop)(s:St):iB i K .ret s=K .ret s:=rfl
@[simp ↓]theorem VQ(i id:Nat)(K:Exit->St->Prop)(s:St):iB i K (.exit id) s=if id=i then K .normal s else K (.exit id) s:=rfl
@[simp ↓]theorem VR(P:Program)(rs:List ResultVar)(res:PV)(fr:Bool)(s:St):si P rs res fr .normal s=oD P rs s res fr:=rfl
@[simp ↓]theorem VS(P:Program)(rs:List ResultVar)(res:PV)(fr:Bool)(s:St):si P rs res fr .ret s=oD P rs s res fr:=rfl
end
theorem nx{fk:Fk}{α:Type}{J:α->Prop}{I:α->St}{μ:α->Nat}{x:α}{K:Exit->St->Prop}{s:St}(y:α)(h:J y)(hle:Lek fk s (I y))(hm:μ y<μ x:=by first|omega|(dsimp only;omega)|(simp;omega)):j5 fk J I μ x K .normal s:=⟨y,h,hm,hle⟩
section
variable{α:Type}(J:α->Prop)(I:α->St)(μ:α->Nat)(x:α)(K:Exit->St->Prop)
theorem nR(y:α)(s:St)(h:J y)(hm:μ y<μ x)(hle:Lek fk s (I y)):j5 fk J I μ x K .normal s:=⟨y,h,hm,hle⟩
@[simp ↓]theorem VT(s:St):j5 fk J I μ x K .ret s=K .ret s:=rfl
@[simp ↓]theorem VU(id:Nat)(s:St):j5 fk J I μ x K (.exit id) s=K (.exit id) s:=rfl
end
section
variable{β:Type}(id:Nat)(F:β->Prop)(fin:β->St)(R:St->Prop)
@[simp ↓]theorem VV(s:St):BQ fk id F fin R .ret s=R s:=rfl
@[congr] theorem VW{id:Nat}{F:β->Prop}{fin:β->St}{R:St->Prop}{e e':Exit}{s s':St}(h:e=e')(h2:s=s'):BQ fk id F fin R e s=BQ fk id F fin R e' s':=by rw[h,h2]
end
@[congr] theorem VX{P:Program}{b:Code}{K:Exit->St->Prop}{e e':Exit}{s s':St}(h:e=e')(h2:s=s'):rT fk P b K e s=rT fk P b K e' s':=by rw[h,h2]
omit [bE] in
@[congr] theorem VY{i:Nat}{K:Exit->St->Prop}{e e':Exit}{s s':St}(h:e=e')(h2:s=s'):iB i K e s=iB i K e' s':=by rw[h,h2]
@[congr] theorem VZ{α:Type}{J:α->Prop}{I:α->St}{μ:α->Nat}{x:α}{K:Exit->St->Prop}{e e':Exit}{s s':St}(h:e=e')(h2:s=s'):j5 fk J I μ x K e s=j5 fk J I μ x K e' s':=by rw[h,h2]
omit [bE] in
@[simp]theorem V0(o f b:Bool)(X Y:Prop):og (.w o f (.bool b)) X Y=((b=true->X)/\(b=false->Y)):=rfl
omit [bE] in
@[simp]theorem V1(o f:Bool)(X Y:Prop):og (.w o f .jE) X Y=(X/\Y):=rfl
def nC(v:AV)(X Y:Prop)(_:Mark (X,Y)):Prop:=og v X Y
section
omit [bE]
@[congr] theorem V2{v v':AV}{X Y:Prop}{mk:Mark (X,Y)}(h:v=v'):nC v X Y mk=nC v' X Y mk:=by rw[h]
@[simp]theorem V3(o f:Bool)(X Y:Prop)(mk:Mark (X,Y)):nC (.w o f (.bool true)) X Y mk=X:=by simp[nC,og]
@[simp]theorem V4(o f:Bool)(X Y:Prop)(mk:Mark (X,Y)):nC (.w o f (.bool false)) X Y mk=Y:=by simp[nC,og]
theorem tR{o f b:Bool}{X Y:Prop}{mk:Mark (X,Y)}(hx:b=true->X)(hy:b=false->Y):nC (.w o f (.bool b)) X Y mk:=⟨hx,hy⟩
theorem j0{o f:Bool}{p:Prop}[Decidable p]{X Y:Prop}{mk:Mark (X,Y)}(hx:p->X)(hy:¬p->Y):nC (.w o f (.bool (decide p))) X Y mk:=⟨λh=>hx av,λh=>hy av⟩
theorem oU{o f:Bool}{p:Prop}[Decidable p]{X Y:Prop}{mk:Mark (X,Y)}(hx:¬p->X)(hy:p->Y):nC (.w o f (.bool (!decide p))) X Y mk:=⟨λh=>hx av,λh=>hy av⟩
end
theorem bP{P:Program}{K:Exit->St->Prop}{st:St}{c:Operand}{x y:Code}(h:nC (ev st.env c) (cK fk P x st K) (cK fk P y st K) .it):cK fk P (.cond c x y) st K:=K3 h
omit [bE] in
@[congr] theorem V5{v v':AV}{X Y:Prop}(h:v=v'):og v X Y=og v' X Y:=by rw[h]
attribute [simp] BH BG BJ BK aOp bin m9 AV.ok AV.one AV.isAgg AV.cells setAt o8 eqS eqL qv lov hiv frz lB xo na isW rM fU iu iv eD gA pd pvs Cy Cz CB iT pD jg oneOf oD eh sj sr qH AV.lt AV.lt.ltL qw
section
omit [bE]
@[simp]theorem V6:flat .undef=true:=rfl
@[simp]theorem V7:flat .jE=true:=rfl
@[simp]theorem V8(b:Bool):flat (.bool b)=true:=rfl
@[simp]theorem V9(k:IntKind)(n:Int):flat (.int k n)=true:=rfl
@[simp]theorem Wa(s:ByteArray):flat (.str s)=true:=rfl
@[simp]theorem Wb:flat .gN=true:=rfl
@[simp]theorem Wc(n:Nat)(c:List PV):flat (.sl n c)=false:=rfl
@[simp]theorem Wd(n:Nat)(c:List PV):flat (.ip c n)=false:=rfl
@[simp]theorem We(c:List PV):flat (.agg c)=false:=rfl
@[simp]theorem Wf(f:FuncId)(c:List PV):flat (.fn f c)=false:=rfl
@[simp]theorem Wh(z:List AV):iN 0 z=[]:=rfl
@[simp]theorem Wi(n:Nat)(z:AV):iN n [z]=List.replicate n z:=by
 unfold iN
 induction n with
 |zero=>rfl
 |succ n ih=>rw[Jn,List.flatten_cons,ih];rfl
@[simp]theorem Wj(x:AV)(l:List AV):jF (x::l) 0=x:=rfl
@[simp]theorem Wl(x:AV)(l:List AV)(k:Nat):jF (x::l) (k+1)=jF l k:=rfl
@[simp]theorem Wm(x:PV)(l:List PV):fw (x::l) 0=x:=rfl
@[simp]theorem Wn(x:PV)(l:List PV)(k:Nat):fw (x::l) (k+1)=fw l k:=rfl
@[simp]theorem Gl{α:Type}[Inhabited α](x:α)(l:List α):nth (x::l) 0=x:=rfl
@[simp]theorem A8{α:Type}[Inhabited α](x:α)(l:List α)(k:Nat):nth (x::l) (k+1)=nth l k:=rfl
theorem Ot(f:PV->AV)(l:List PV)(k:Nat)(h:k<l.length):jF (l.map f) k=f (fw l k):=by
 simp[jF,fw,dT,jm,dO h]
theorem Gm(s:ByteArray):s=ByteArray.empty↔s.size=0:=by
 simp
@[simp]theorem Wo(s:ByteArray)(k:Nat)(h:k<s.size):fw (mg s) k=.int .u8 (uo s k):=by
 have:k<s.data.toList.length:=av
 simp[fw,mg,uo,dT,jm,dO this]
theorem db{n:Int}(h1:-9000000000000000000<=n)(h2:n<=9000000000000000000):inI .i64 n:=by
 simp only[inI,IntKind.min,IntKind.max,IntKind.signed,IntKind.bits]
 constructor<;>simp<;>omega
end
end Go.Fi
namespace Go.Fi
open Go
theorem tT{α:Type}(f:α->List PV)(s:Nat)(hf:∀x,(f x).length=s):∀l:List α,(l.flatMap f).length=l.length*s
 |[]=>by simp
 |x::l=>by rw[pQ,uW,hf,tT f s hf l,fS,eU];omega
theorem wU{α:Type}[Inhabited α](f:α->List PV)(s:Nat)(hf:∀x,(f x).length=s):∀(l:List α)(k:Nat),k<l.length->((l.flatMap f).drop (k*s)).take s=f (nth l k)
 |[],k,h=>by simp at h
 |x::l,0,h=>by
  simp_all
 |x::l,k+1,h=>by
  simp only[pQ,A8]
  have e:(k+1)*s=s+k*s:=by rw[eU];omega
  have e2:(f x++l.flatMap f).drop s=l.flatMap f:=by
   rw[List.drop_append_of_le_length (by rw[hf];simp),Jv (by rw[hf];simp),Jw]
  rw[e,<-List.drop_drop,e2];exact wU f s hf l k av
theorem Ou(a b:List PV)(j:Nat)(h:j<a.length):fw (a++b) j=fw a j:=by
 simp[fw,dT,sN h]
theorem Ov(a b:List PV)(j:Nat):fw (a++b) (a.length+j)=fw b j:=by
 unfold fw;rw[dT,sP ab,dT];simp
theorem qn{α:Type}[Inhabited α](f:α->List PV)(s:Nat)(hf:∀x,(f x).length=s):∀(l:List α)(k j:Nat),k<l.length->j<s->fw (l.flatMap f) (k*s+j)=fw (f (nth l k)) j
 |[],k,j,h,_=>by simp at h
 |x::l,0,j,h,hj=>by
  simp only[pQ,pO,dJ,Gl];exact Ou _ _ _ (by rw[hf];exact hj)
 |x::l,k+1,j,h,hj=>by
  simp only[pQ,A8]
  have e:(k+1)*s+j=(f x).length+(k*s+j):=by rw[hf,eU];omega
  rw[e,Ov];exact qn f s hf l k j av hj
theorem Gn{α:Type}[Inhabited α](f:α->PV)(l:List α)(k:Nat)(h:k<l.length):fw (l.map f) k=f (nth l k):=by
 simp[fw,nth,dT,jm,dO h]
end Go.Fi
namespace Go.Fi
open Go Go.RowKit
variable[bE]
variable{fk:Fk}
section
variable{P:Program}{K K':Exit->St->Prop}{st st':St}
theorem dk{id:Nat}{x y:Code}(h:cK fk P (.seq x y) st (iB id K)):cK fk P (.block id (.seq x y)) st K:=gw h
theorem A9{id i:Nat}{ops:Array Oper}{b:Bool}(h:cK fk P (.region i ops b) st (iB id K)):cK fk P (.block id (.region i ops b)) st K:=gw h
theorem Ba{c:Code}(h:cK fk P c st K)(hk:∀e s,K e s->∃s',Lek fk s s'/\K' e s'):cK fk P c st K':=
 λB w0 a w m hs=>eT (h B w0 a w m hs) (λe a' w' ⟨st',m',h1,h2⟩=>by
  obtain⟨s',hle,hh⟩:=hk e st' h1;obtain⟨ha,h9⟩:=hle B w0 a' w' m' h2
  grind)
def qJ(fk:Fk){β:Type}(F:β->Prop)(fin:β->St)(s:St):Prop:=∃y,F y/\Lek fk s (fin y)
theorem dQ{β:Type}{F:β->Prop}{fin:β->St}{s:St}(y:β)(h:F y)(hle:Lek fk s (fin y)):qJ fk F fin s:=⟨y,h,hle⟩
@[congr] theorem X0{β:Type}{F:β->Prop}{fin:β->St}{s s':St}(h:s=s'):qJ fk F fin s=qJ fk F fin s':=by rw[h]
def mD(fk:Fk){β:Type}(id:Nat)(F:β->Prop)(fin:β->St)(K:Exit->St->Prop):Exit->St->Prop
 |.exit i,s=>if i=id then qJ fk F fin s else K (.exit i) s
 |.normal,_=>False
 |e,s=>K e s
@[simp]theorem X1{β:Type}(id i:Nat)(F:β->Prop)(fin:β->St)(s:St):mD fk id F fin K (.exit i) s=if i=id then qJ fk F fin s else K (.exit i) s:=rfl
@[simp]theorem X2{β:Type}(id:Nat)(F:β->Prop)(fin:β->St)(s:St):mD fk id F fin K .ret s=K .ret s:=rfl
@[congr] theorem X3{β:Type}{id:Nat}{F:β->Prop}{fin:β->St}{e e':Exit}{s s':St}(h:e=e')(h2:s=s'):mD fk id F fin K e s=mD fk id F fin K e' s':=by rw[h,h2]
def fE(env:Env):List Nat->Env
 |[]=>[]
 |k::ks=>(k,get env k)::fE env ks
omit [bE] in
@[simp]theorem X4(env:Env):fE env []=[]:=rfl
omit [bE] in
@[simp]theorem X5(env:Env)(k:Nat)(ks:List Nat):fE env (k::ks)=(k,get env k)::fE env ks:=rfl
theorem wV{c:Code}{id:Nat}{env:Env}{h:bz}{n nt:Nat}{α β:Type}(J:α->Prop)(ks:List Nat)(mods:α->Env)(hf:α->bz)(μ:α->Nat)(F:β->Prop)(fks:List Nat)(fmods:β->Env)(ff:β->bz)(x0:α)(hJ:J x0)(h0:sr env n (mods x0++fE env ks))(h1:qH h n (hf x0))(round:∀x,J x->cK fk P c ⟨mods x++fE env ks,hf x,n,nt⟩ (j5 fk J (λx=>⟨mods x++fE env ks,hf x,n,nt⟩) μ x (mD fk id F (λy=>⟨fmods y++fE env fks,ff y,n,nt⟩) K)))(after:∀y,F y->K .normal ⟨fmods y++fE env fks,ff y,n,nt⟩):cK fk P (.block id (.loop c)) ⟨env,h,n,nt⟩ K:=by
 refine K4 (λhk=>gw (Ba (vH J (λx=>⟨mods x++fE env ks,hf x,n,nt⟩) μ x0 hJ (cY h0 h1 hk) round) (λe s hk=>?_)))
 cases e<;>first
  |exact hk.elim
  |exact⟨s,Lek.refl s,hk⟩
  |(simp only[mD] at hk
    simp only[iB];split at hk
    .rename_i h8;obtain⟨y,hy,hle⟩:=hk
     grind
    .rename_i h8
     exact⟨s,Lek.refl s,by rw[bN h8];exact hk⟩)
def uI(fk:Fk){β:Type}(F:β->Prop)(fin:β->St)(K:Exit->St->Prop):Exit->St->Prop
 |.normal,s=>qJ fk F fin s
 |e,s=>K e s
@[simp]theorem X6{β:Type}(F:β->Prop)(fin:β->St)(s:St):uI fk F fin K .normal s=qJ fk F fin s:=rfl
@[simp]theorem X7{β:Type}(i:Nat)(F:β->Prop)(fin:β->St)(s:St):uI fk F fin K (.exit i) s=K (.exit i) s:=rfl
@[simp]theorem X8{β:Type}(F:β->Prop)(fin:β->St)(s:St):uI fk F fin K .ret s=K .ret s:=rfl
@[congr] theorem X9{β:Type}{F:β->Prop}{fin:β->St}{e e':Exit}{s s':St}(h:e=e')(h2:s=s'):uI fk F fin K e s=uI fk F fin K e' s':=by rw[h,h2]
end
omit [bE] in
@[simp]theorem Ow(h:bz)(o f:Bool):∀l:List PV,lB h (l.map (.w o f))=some l
 |[]=>rfl
 |p::r=>by simp[lB,frz,Ow h o f r]
omit [bE] in
@[simp]theorem Ox(o f:Bool):∀l:List PV,na (l.map (.w o f))=true
 |[]=>rfl
 |p::r=>by simp[na,xo,Ox o f r]
end Go.Fi
namespace Go.Fi
open Go Go.RowKit
open Go.Conc (G)
section
variable{P:Program}{b:Frame}{a:Act}{k:List Item}{cs:List Frame}{w:World}
theorem Py{c:Code}:stepG P true (G (b.atR a (.code (.scope c)::k)) cs) w=.go (G (b.atR a (.code c::.inScope c::k)) cs) w #[]:=by rfl
theorem Pz{c:Code}:stepG P true (G (b.atR a (.inScope c::k)) cs) w=.go (G (b.atR a k) cs) w #[]:=by rfl
end
section
variable[EnvD]
variable{P:Program}{r:Option Nat}{Q:Exit->Act->World->Prop}{a:Act}{w:World}
theorem PD{c:Code}(h:c.wpT r P Q a w):(Code.scope c).wpT r P Q a w:=by
 intro b k cs hr hk;refine .quiet _ _ (λ_=>Py) dt ((h b (.inScope c::k) cs hr hk).bind ?_)
 rintro fr cs' w' ⟨rfl,e,a',hq,he⟩
 cases e with
 |normal=>subst he;exact .quiet _ _ (λ_=>Pz) dt (.now ⟨rfl,.normal,a',hq,rfl⟩)
 |exit id=>
  obtain⟨k1,h1,rfl⟩:=he;exact .now ⟨rfl,.exit id,a',hq,k1,h1.trans (by simp[exitTo]),rfl⟩
 |ret=>obtain⟨k1,rfl⟩:=he;exact .now ⟨rfl,.ret,a',hq,k1,rfl⟩
 |_=>exact he.elim
end
variable[bE]
variable{fk:Fk}{P:Program}{K:Exit->St->Prop}{st:St}
theorem PF{c:Code}(h:cK fk P c st K):cK fk P (.scope c) st K:=λB w0 a w m hs=>PD (h B w0 a w m hs)
theorem PG{l:Nat}(h:K .normal st):cK fk P (.label l) st K:=λ_ _ _ _ m hs=>JP ⟨st,m,h,hs⟩
end Go.Fi
