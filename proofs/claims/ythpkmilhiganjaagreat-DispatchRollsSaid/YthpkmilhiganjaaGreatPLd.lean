/- Lemmas. -/
import Derived.Test.YthpkmilhiganjaaGreatPLc
set_option linter.all false
set_option maxHeartbeats 32000000
set_option maxRecDepth 100000
namespace Go.Fi
open Go Go.RowKit
variable[bJ]
variable{fk:Fk}
@[congr] theorem S4{P:Program}{c:Code}{st st':St}{K:Exit->St->Prop}(h:st=st'):cX fk P c st K=cX fk P c st' K:=by rw[h]
@[congr] theorem S5{P:Program}{ops:Array Oper}{nt:Nat}{os:List Oper}{e e':Env}{h h':bD}{n n':Nat}{K:Env->bD->Nat->Prop}(h1:e=e')(h2:h=h')(h3:n=n'):dD P ops nt os e h n K=dD P ops nt os e' h' n' K:=by rw[h1,h2,h3]
@[congr] theorem S6{P:Program}{ops:Array Oper}{nt:Nat}{os:List Oper}{e e':Env}{h h':bD}{n n':Nat}{K:Env->bD->Nat->Prop}(h1:e=e')(h2:h=h')(h3:n=n'):gm P ops nt os e h n K=gm P ops nt os e' h' n' K:=by rw[h1,h2,h3]
@[congr] theorem S7{P:Program}{env env':Env}{h h':bD}{n n':Nat}{op:Op}{K:AV->bD->Nat->Prop}(h1:env=env')(h2:h=h')(h3:n=n'):dA P env h n op K=dA P env' h' n' op K:=by rw[h1,h2,h3]
@[congr] theorem S8{P:Program}{env env':Env}{h h':bD}{n n':Nat}{op:Op}{K:AV->List (List AV)->Prop}(h1:env=env')(h2:h=h')(h3:n=n'):du P env h n op K=du P env' h' n' op K:=by rw[h1,h2,h3]
@[congr] theorem Ta{P:Program}{g:FuncId}{args h5:List PV}{K:PV->Bool->Prop}{K2:List (List AV)->AV->Prop}{mk:Mark (K,K2)}(h:args=h5):CW P g args K K2 mk=CW P g h5 K K2 mk:=by rw[h]
def aW(r:Option (Prop×AV×List (List AV)))(K:AV->List (List AV)->Prop)(_:Mark K):Prop:=
 match r with
 |some (c,v,E)=>c/\K v E
 |none=>False
section
omit [bJ]
@[congr] theorem Tb{r r':Option (Prop×AV×List (List AV))}{K:AV->List (List AV)->Prop}{mk:Mark K}(h:r=r'):aW r K mk=aW r' K mk:=by rw[h]
@[simp]theorem Tc(c:Prop)(v:AV)(E:List (List AV))(K:AV->List (List AV)->Prop)(mk:Mark K):aW (some (c,v,E)) K mk=(c/\K v E):=rfl
@[simp]theorem Td(K:AV->List (List AV)->Prop)(mk:Mark K):aW none K mk=False:=rfl
end
section
variable{P:Program}{ops:Array Oper}{nt:Nat}{env:Env}{h:bD}{n:Nat}
@[simp ↓]theorem Te(K:Env->bD->Nat->Prop):dD P ops nt [] env h n K=K env h n:=rfl
@[simp ↓]theorem Tf(K:Env->bD->Nat->Prop):gm P ops nt [] env h n K=K env h n:=rfl
section
omit [bJ]
@[simp]theorem Tg(d:Nat):dOk nt (some d)=(d<nt):=rfl
@[simp]theorem Ti:dOk nt none=True:=rfl
@[simp]theorem Tj(d:Nat)(v:AV):put env (some d) v=(d,v)::env:=rfl
@[simp]theorem Tk(v:AV):put env none v=env:=rfl
@[simp]theorem Tl:db h n []=h:=rfl
@[simp]theorem Tm(c:List AV):db h n [c]=(n,c)::h:=rfl
@[simp]theorem Tn(t:Nat):get [] t=.w false false .undef:=rfl
@[simp]theorem To(k t:Nat)(v:AV):get ((k,v)::env) t=if k=t then v else get env t:=rfl
@[simp]theorem Tp(k t:Nat)(v:List AV):cV ((k,v)::h) t=if k=t then some v else cV h t:=rfl
@[simp]theorem Tq(t:Nat):cV [] t=none:=rfl
@[simp]theorem Ts(k t:Nat)(v x:List AV):dz ((k,v)::h) t x=if k=t then (k,x)::h else (k,v)::dz h t x:=rfl
@[simp]theorem Tt(t:Nat):ev env (.tmp t)=get env t:=rfl
@[simp]theorem Tu(v:Value):ev env (.const v)=cst v:=rfl
@[simp]theorem Tx(f:FuncId):ev env (.func f)=.fn f []:=rfl
end
attribute [simp] cst nh
@[simp ↓]theorem Ty(dst:Option Tmp)(op:Op)(ty:TypeId)(pos:String)(after:Array Edge)(os:List Oper)(K:Env->bD->Nat->Prop):dD P ops nt (⟨dst,op,ty,pos,after,none⟩::os) env h n K=(dOk nt dst/\dA P env h n op λv h' n'=>dD P ops nt os (put env dst v) h' n' K):=by
 simp[dD,gl]
@[simp ↓]theorem TA(dst:Option Tmp)(op:Op)(ty:TypeId)(pos:String)(after:Array Edge)(os:List Oper)(K:Env->bD->Nat->Prop):gm P ops nt (⟨dst,op,ty,pos,after,none⟩::os) env h n K=(dOk nt dst/\du P env h n op λv E=>gm P ops nt os (put env dst v) (db h n E) (n+E.length) K):=by
 simp[gm,gl]
def gW(g:Option Bool)(X Y:Prop):Prop:=
 match g with
 |some b=>(b=true->X)/\(b=false->Y)
 |none=>False
section
omit [bJ]
@[congr] theorem TB{g g':Option Bool}{X Y:Prop}(h:g=g'):gW g X Y=gW g' X Y:=by rw[h]
@[simp]theorem Bf(X Y:Prop):gW (some true) X Y=X:=by simp[gW]
@[simp]theorem Bg(X Y:Prop):gW (some false) X Y=Y:=by simp[gW]
end
def uH(v:AV)(want:Bool):Option Bool:=
 match v with
 |.w _ _ (.bool b)=>some (b==want)
 |.tup []=>some false
 |_=>none
omit [bJ] in
@[simp]theorem TC(o f b want:Bool):uH (.w o f (.bool b)) want=some (b==want):=rfl
omit [bJ] in
@[simp]theorem TD(want:Bool):uH (.tup []) want=some false:=rfl
def gOf(ops:Array Oper)(env:Env)(j:Nat)(want:Bool):Option Bool:=
 match eD ops j with
 |none=>some false
 |some t=>uH (get env t) want
omit [bJ] in
theorem Bh(dst:Option Tmp)(op:Op)(ty:TypeId)(pos:String)(after:Array Edge)(j:Nat)(want:Bool):gl ops env ⟨dst,op,ty,pos,after,some (j,want)⟩=gOf ops env j want:=by
 rfl
theorem NN(dst:Option Tmp)(op:Op)(ty:TypeId)(pos:String)(after:Array Edge)(j:Nat)(want:Bool)(os:List Oper)(K:Env->bD->Nat->Prop):dD P ops nt (⟨dst,op,ty,pos,after,some (j,want)⟩::os) env h n K=(dOk nt dst/\gW (gOf ops env j want) (dA P env h n op λv h' n'=>dD P ops nt os (put env dst v) h' n' K) (dD P ops nt os (put env dst (.tup [])) h n K)):=by
 conv=>lhs;unfold dD
 rw[Bh]
 cases gOf ops env j want<;>simp[gW]
theorem NO(dst:Option Tmp)(op:Op)(ty:TypeId)(pos:String)(after:Array Edge)(j:Nat)(want:Bool)(os:List Oper)(K:Env->bD->Nat->Prop):gm P ops nt (⟨dst,op,ty,pos,after,some (j,want)⟩::os) env h n K=(dOk nt dst/\gW (gOf ops env j want) (du P env h n op λv E=>gm P ops nt os (put env dst v) (db h n E) (n+E.length) K) (gm P ops nt os (put env dst (.tup [])) h n K)):=by
 conv=>lhs;unfold gm
 rw[Bh]
 cases gOf ops env j want<;>simp[gW]
def gM(g:Option Bool)(X Y:Prop)(_:Mark (X,Y)):Prop:=gW g X Y
omit [bJ] in
@[congr] theorem TE{g g':Option Bool}{X Y:Prop}{mk:Mark (X,Y)}(h:g=g'):gM g X Y mk=gM g' X Y mk:=by rw[h]
def gE(g:Option Bool)(P:Program)(env:Env)(h:bD)(n:Nat)(op:Op)(K:AV->bD->Nat->Prop)(_:Mark K):Prop:=gW g (dA P env h n op K) (K (.tup []) h n)
def gQ(g:Option Bool)(P:Program)(env:Env)(h:bD)(n:Nat)(op:Op)(K:AV->List (List AV)->Prop)(_:Mark K):Prop:=gW g (du P env h n op K) (K (.tup []) [])
@[congr] theorem TF{g g':Option Bool}{P:Program}{env env':Env}{h h':bD}{n n':Nat}{op:Op}{K:AV->bD->Nat->Prop}{mk:Mark K}(e1:g=g')(e2:env=env')(e3:h=h')(e4:n=n'):gE g P env h n op K mk=gE g' P env' h' n' op K mk:=by rw[e1,e2,e3,e4]
@[congr] theorem TG{g g':Option Bool}{P:Program}{env env':Env}{h h':bD}{n n':Nat}{op:Op}{K:AV->List (List AV)->Prop}{mk:Mark K}(e1:g=g')(e2:env=env')(e3:h=h')(e4:n=n'):gQ g P env h n op K mk=gQ g' P env' h' n' op K mk:=by rw[e1,e2,e3,e4]
section
variable{op:Op}{K:AV->bD->Nat->Prop}{mk:Mark K}{Kq:AV->List (List AV)->Prop}{mkq:Mark Kq}{b:Bool}{p:Prop}[Decidable p]
@[simp]theorem TH:gE (some true) P env h n op K mk=dA P env h n op K:=by unfold gE;exact Bf _ _
@[simp]theorem TI:gE (some false) P env h n op K mk=K (.tup []) h n:=by unfold gE;exact Bg _ _
@[simp]theorem TJ:gQ (some true) P env h n op Kq mkq=du P env h n op Kq:=by unfold gQ;exact Bf _ _
@[simp]theorem TK:gQ (some false) P env h n op Kq mkq=Kq (.tup []) []:=by unfold gQ;exact Bg _ _
theorem wX(hx:b=true->dA P env h n op K)(hy:b=false->K (.tup []) h n):gE (some b) P env h n op K mk:=⟨hx,hy⟩
theorem wY(hx:b=false->dA P env h n op K)(hy:b=true->K (.tup []) h n):gE (some (!b)) P env h n op K mk:=⟨λh=>hx av,λh=>hy av⟩
theorem NQ(hx:p->dA P env h n op K)(hy:¬p->K (.tup []) h n):gE (some (decide p)) P env h n op K mk:=⟨λh=>hx av,λh=>hy av⟩
theorem NR(hx:¬p->dA P env h n op K)(hy:p->K (.tup []) h n):gE (some (!decide p)) P env h n op K mk:=⟨λh=>hx av,λh=>hy av⟩
end
section
variable{dst:Option Tmp}{op:Op}{ty:TypeId}{pos:String}{after:Array Edge}{j:Nat}{want:Bool}{os:List Oper}
@[simp ↓]theorem TL{K:Env->bD->Nat->Prop}:dD P ops nt (⟨dst,op,ty,pos,after,some (j,want)⟩::os) env h n K=(dOk nt dst/\gE (gOf ops env j want) P env h n op (λv h' n'=>dD P ops nt os (put env dst v) h' n' K) .it):=NN ..
@[simp ↓]theorem TM{K:Env->bD->Nat->Prop}:gm P ops nt (⟨dst,op,ty,pos,after,some (j,want)⟩::os) env h n K=(dOk nt dst/\gQ (gOf ops env j want) P env h n op (λv E=>gm P ops nt os (put env dst v) (db h n E) (n+E.length) K) .it):=NO ..
end
def nE:List Oper->Nat->Option Tmp
 |[],_=>none
 |o::_,0=>o.dst
 |_::r,k+1=>nE r k
omit [bJ] in
@[simp]theorem TO(o:Oper)(r:List Oper):nE (o::r) 0=o.dst:=by rw[nE]
omit [bJ] in
@[simp]theorem TP(o:Oper)(r:List Oper)(k:Nat):nE (o::r) (k+1)=nE r k:=by rw[nE]
def gV(env:Env)(d:Option Tmp)(want:Bool):Option Bool:=
 match d with
 |none=>some false
 |some t=>uH (get env t) want
section
omit [bJ]
@[simp]theorem TR(t:Tmp)(want:Bool):gV env (some t) want=uH (get env t) want:=rfl
theorem Gg:∀(l:List Oper)(j:Nat),nE l j=(l[j]?).bind (·.dst)
 |[],j=>by simp[nE]
 |o::r,0=>rfl
 |o::r,j+1=>by simp only[nE,xZ];exact Gg r j
@[simp]theorem TT(l:List Oper)(j:Nat)(want:Bool):gOf l.toArray env j want=gV env (nE l j) want:=by
 unfold gOf eD gV;rw[ya,Gg]
 cases (l[j]?).bind (·.dst)<;>rfl
end
@[simp ↓]theorem TU(x:Operand)(K:AV->bD->Nat->Prop):dA P env h n (.move x) K=K (ev env x) h n:=by simp[dA,du,aOp]
@[simp ↓]theorem TV(x:Operand)(K:AV->bD->Nat->Prop):dA P env h n (.assign x) K=K (ev env x) h n:=by simp[dA,du,aOp]
@[simp ↓]theorem TW(x:Operand)(K:AV->List (List AV)->Prop):du P env h n (.move x) K=K (ev env x) []:=by simp[du,aOp]
@[simp ↓]theorem TX(x:Operand)(K:AV->List (List AV)->Prop):du P env h n (.assign x) K=K (ev env x) []:=by simp[du,aOp]
end
def CM(h:bD)(ty:Option (Nat×Bool))(ad x:AV):Option (Prop×bD):=
 match ty,ad with
 |some (sz,_),.ptr id ver off=>
  match cV h id with
  |some cells=>some ((cells.length=ver/\x.ok=true/\x.cells.length=sz/\off+sz<=cells.length/\eh x.cells=true),dz h id (setAt cells off x.cells))
  |none=>none
 |_,_=>none
def CP(P:Program)(h:bD)(n:Nat)(t tx:TypeId)(s x:AV):Option (Prop×AV×bD×Nat):=
 match slE P t,slE P tx with
 |some (e,sz),some _=>
  match byE P e,fE P e,iJ h sz x with
  |some by_,some z,some (k2,news,c)=>
   match s with
   |.msl id ver z' off k=>
    match cV h id with
    |some cells=>some ((c/\off=0/\cells.length=ver/\z'=sz/\z.length=sz/\0<sz/\k*sz<=ver/\k+k2<=1000000000/\by_<=100000/\eh news=true),
      .msl id (iK cells (k*sz) news).length sz 0 (k+k2),dz h id (iK cells (k*sz) news),n)
    |none=>none
   |.w own true (.sl k cells)=>
    bif own&&decide (k=0)&&cells.isEmpty then some ((c/\0<k2/\z.length=sz/\0<sz/\k2<=1000000000/\by_<=100000),.msl n news.length sz 0 k2,(n,news)::h,n+1)
    else match pvs news with
     |some q=>some ((c/\cells.length=k*sz/\z.length=sz/\0<sz/\k+k2<=1000000000/\by_<=100000),.w (ij q&&(own || cells.isEmpty)) false (.sl (k+k2) (cells++q)),h,n)
     |none=>none
   |_=>none
  |_,_,_=>none
 |_,_=>none
def CQ(P:Program)(h:bD)(n:Nat)(args:List AV)(tys:List TypeId):Option (Prop×AV×bD×Nat):=
 match args,tys with
 |[s,x],[t,tx]=>CP P h n t tx s x
 |_,_=>none
def sM(r:Option (Prop×bD))(n:Nat)(K:AV->bD->Nat->Prop)(_:Mark K):Prop:=
 match r with
 |some (c,h')=>c/\K (.tup []) h' n
 |none=>False
def pM(r:Option (Prop×AV×bD×Nat))(K:AV->bD->Nat->Prop)(_:Mark K):Prop:=
 match r with
 |some (c,v,h',n')=>c/\K v h' n'
 |none=>False
section
omit [bJ]
@[congr] theorem TY{r r':Option (Prop×bD)}{n n':Nat}{K:AV->bD->Nat->Prop}{mk:Mark K}(h:r=r')(h2:n=n'):sM r n K mk=sM r' n' K mk:=by rw[h,h2]
@[congr] theorem TZ{r r':Option (Prop×AV×bD×Nat)}{K:AV->bD->Nat->Prop}{mk:Mark K}(h:r=r'):pM r K mk=pM r' K mk:=by rw[h]
@[simp]theorem T0(c:Prop)(h':bD)(n:Nat)(K:AV->bD->Nat->Prop)(mk:Mark K):sM (some (c,h')) n K mk=(c/\K (.tup []) h' n):=rfl
@[simp]theorem T3(c:Prop)(v:AV)(h':bD)(n':Nat)(K:AV->bD->Nat->Prop)(mk:Mark K):pM (some (c,v,h',n')) K mk=(c/\K v h' n'):=rfl
end
@[simp ↓]theorem T4{P:Program}{env:Env}{h:bD}{n:Nat}(t:TypeId)(ad x:Operand)(K:AV->bD->Nat->Prop):dA P env h n (.store t ad x) K=sM (CM h (tyL P t) (ev env ad) (ev env x)) n K .it:=by
 show rO P env h n t ad x K=_;unfold rO CM
 cases tyL P t with
 |none=>cases ev env ad<;>rfl
 |some y=>
  obtain⟨sz,g⟩:=y
  cases ev env ad with
  |ptr id ver off=>dsimp only;cases cV h id<;>rfl
  |_=>rfl
@[simp ↓]theorem T5{P:Program}{env:Env}{h:bD}{n:Nat}(args:Array Operand)(tys:Array TypeId)(K:AV->bD->Nat->Prop):dA P env h n (.call ⟨.builtin .append,args,tys⟩) K=pM (CQ P h n (args.toList.map (ev env)) tys.toList) K .it:=by
 show rM P env h n args.toList tys.toList K=_;generalize args.toList=la;generalize tys.toList=lt;unfold rM CQ
 match la,lt with
 |[s,x],[t,tx]=>
  simp only[List.map];unfold CP
  cases slE P t with
  |none=>rfl
  |some y=>
   obtain⟨e,sz⟩:=y
   cases slE P tx with
   |none=>rfl
   |some y2=>
    dsimp only
    cases byE P e with
    |none=>rfl
    |some by_=>
     cases fE P e with
     |none=>rfl
     |some z=>
      cases iJ h sz (ev env x) with
      |none=>rfl
      |some y3=>
       obtain⟨k2,news,c⟩:=y3;dsimp only
       cases ev env s with
       |msl id ver z' off k=>dsimp only;cases cV h id<;>rfl
       |w own f p=>
        cases f with
        |false=>rfl
        |true=>
         cases p with
         |sl k cells=>
          dsimp only
          cases (own&&decide (k=0)&&cells.isEmpty) with
          |true=>rfl
          |false=>simp only[cond_false];cases pvs news<;>rfl
         |_=>rfl
       |_=>rfl
 |[],_=>simp[pM]
 |[_],_=>simp[pM]
 |_::_::_::_,_=>simp[pM]
 |[_,_],[]=>simp[pM]
 |[_,_],[_]=>simp[pM]
 |[_,_],_::_::_::_=>simp[pM]
@[simp ↓]theorem T6{P:Program}{env:Env}{h:bD}{n:Nat}(args:Array Operand)(tys:Array TypeId)(K:AV->bD->Nat->Prop):dA P env h n (.call ⟨.builtin .copy,args,tys⟩) K=pM ((rP P h (args.toList.map (ev env)) tys.toList).map λy=>(y.1,y.2.1,y.2.2,n)) K .it:=by
 show rQ P env h n args.toList tys.toList K=_;unfold rQ
 cases rP P h (args.toList.map (ev env)) tys.toList with
 |none=>rfl
 |some y=>rfl
attribute [simp] rP pq shr
def eK(h:bD)(n:Nat)(K:AV->bD->Nat->Prop):AV->List (List AV)->Prop:=λv E=>K v (db h n E) (n+E.length)
omit [bJ] in
@[simp ↓]theorem T7(h:bD)(n:Nat)(K:AV->bD->Nat->Prop)(v:AV):eK h n K v []=K v h n:=by rfl
omit [bJ] in
@[simp ↓]theorem T8(h:bD)(n:Nat)(K:AV->bD->Nat->Prop)(v:AV)(c:List AV):eK h n K v [c]=K v ((n,c)::h) (n+1):=by rfl
section
variable{P:Program}{env:Env}{h:bD}{n:Nat}(K:AV->bD->Nat->Prop)(Kq:AV->List (List AV)->Prop)
def gdV(b:Bool)(v:AV):AV:=bif b then v else .tup []
omit [bJ] in
@[simp]theorem T9(v:AV):gdV true v=v:=rfl
omit [bJ] in
@[simp]theorem Ua(v:AV):gdV false v=.tup []:=rfl
def pkW(c x y:AV)(K:AV->List (List AV)->Prop)(_:Mark K):Prop:=
 match c with
 |.w _ _ (.bool t)=>
  match x,y with
  |.w _ _ (.bool a),.w _ _ (.bool b)=>K (.w false false (.bool (bif t then a else b))) []
  |x,y=>K (bif t then x else y) []
 |_=>False
omit [bJ] in
@[congr] theorem Ub{c c' x x' y y':AV}{K:AV->List (List AV)->Prop}{mk:Mark K}(h1:c=c')(h2:x=x')(h3:y=y'):pkW c x y K mk=pkW c' x' y' K mk:=by rw[h1,h2,h3]
section
variable{K:AV->List (List AV)->Prop}{mk:Mark K}
section
omit [bJ]
@[simp]theorem Uc(o f t o1 f1 a o2 f2 b:Bool):pkW (.w o f (.bool t)) (.w o1 f1 (.bool a)) (.w o2 f2 (.bool b)) K mk=K (.w false false (.bool (bif t then a else b))) []:=rfl
@[simp]theorem Ud(o f t:Bool)(l:List AV)(y:AV):pkW (.w o f (.bool t)) (.tup l) y K mk=K (bif t then .tup l else y) []:=rfl
@[simp]theorem Ue(o f t:Bool)(l:List AV)(x:AV):pkW (.w o f (.bool t)) x (.tup l) K mk=K (bif t then x else .tup l) []:=by
 unfold pkW;simp only
end
@[simp ↓]theorem NS(c x y:Operand):du P env h n (.pick c x y) K=pkW (ev env c) (ev env x) (ev env y) K .it:=by
 simp only[du,aOp,pkW];generalize ev env c=cv;generalize ev env x=xv;generalize ev env y=yv
 cases cv with
 |w o f v=>
  cases v with
  |bool t=>
   simp only;split
   .rename_i e1;split at e1<;>(injection e1 with e1;injection e1 with e1 e;injection e with e2 e3;subst e1;subst e2;subst e3;simp)
   .rename_i e1;split at e1<;>cases e1
  |_=>rfl
 |_=>rfl
@[simp ↓]theorem Uf(c x y:Operand)(K:AV->bD->Nat->Prop):dA P env h n (.pick c x y) K=pkW (ev env c) (ev env x) (ev env y) (eK h n K) .it:=by
 rw[<-NS];rfl
end
@[simp ↓]theorem Ug(t:TypeId):dA P env h n (.alloc t) K=aW (aOp P h n (ev env) (.alloc t)) (eK h n K) .it:=rfl
@[simp ↓]theorem Uh(t:TypeId):du P env h n (.alloc t) Kq=aW (aOp P h n (ev env) (.alloc t)) Kq .it:=rfl
@[simp ↓]theorem zau(t:TypeId)(x:Operand):dA P env h n (.box t x) K=aW (aOp P h n (ev env) (.box t x)) (eK h n K) .it:=rfl
@[simp ↓]theorem zav(t:TypeId)(x:Operand):du P env h n (.box t x) Kq=aW (aOp P h n (ev env) (.box t x)) Kq .it:=rfl
@[simp ↓]theorem Ui(t:TypeId)(ps:Array (Nat×Operand)):dA P env h n (.build t ps) K=aW (aOp P h n (ev env) (.build t ps)) (eK h n K) .it:=rfl
@[simp ↓]theorem Uj(t:TypeId)(ps:Array (Nat×Operand)):du P env h n (.build t ps) Kq=aW (aOp P h n (ev env) (.build t ps)) Kq .it:=rfl
@[simp ↓]theorem Uk(t:TypeId)(l:Nat)(ps:Array (Nat×Operand)):dA P env h n (.buildSlice t l ps) K=aW (aOp P h n (ev env) (.buildSlice t l ps)) (eK h n K) .it:=rfl
@[simp ↓]theorem Ul(t:TypeId)(l:Nat)(ps:Array (Nat×Operand)):du P env h n (.buildSlice t l ps) Kq=aW (aOp P h n (ev env) (.buildSlice t l ps)) Kq .it:=rfl
@[simp ↓]theorem Um(t:TypeId)(x:Operand):dA P env h n (.load t x) K=aW (aOp P h n (ev env) (.load t x)) (eK h n K) .it:=rfl
@[simp ↓]theorem Un(t:TypeId)(x:Operand):du P env h n (.load t x) Kq=aW (aOp P h n (ev env) (.load t x)) Kq .it:=rfl
@[simp ↓]theorem Uo(x:Operand):dA P env h n (.nilCheck x) K=aW (aOp P h n (ev env) (.nilCheck x)) (eK h n K) .it:=rfl
@[simp ↓]theorem Up(x:Operand):du P env h n (.nilCheck x) Kq=aW (aOp P h n (ev env) (.nilCheck x)) Kq .it:=rfl
@[simp ↓]theorem Uq(op:BinOp)(t:TypeId)(x y:Operand)(yt:TypeId):dA P env h n (.binOp op t x y yt) K=aW (aOp P h n (ev env) (.binOp op t x y yt)) (eK h n K) .it:=rfl
@[simp ↓]theorem Ur(op:BinOp)(t:TypeId)(x y:Operand)(yt:TypeId):du P env h n (.binOp op t x y yt) Kq=aW (aOp P h n (ev env) (.binOp op t x y yt)) Kq .it:=rfl
@[simp ↓]theorem Us(op:UnOp)(t:TypeId)(x:Operand):dA P env h n (.unOp op t x) K=aW (aOp P h n (ev env) (.unOp op t x)) (eK h n K) .it:=rfl
@[simp ↓]theorem Ut(op:UnOp)(t:TypeId)(x:Operand):du P env h n (.unOp op t x) Kq=aW (aOp P h n (ev env) (.unOp op t x)) Kq .it:=rfl
def cvW(P:Program)(env:Env)(h:bD)(n:Nat)(src dst:TypeId)(x:Operand)(v:AV)(K:AV->bD->Nat->Prop)(_:Mark K):Prop:=
 match v with
 |.w _ _ (.str s)=>rT P src dst=true/\K (.w true false (.sl s.size (mA s))) h n
 |_=>du P env h n (.convert src dst x) λv E=>K v (db h n E) (n+E.length)
@[congr] theorem Uu{P:Program}{env:Env}{h:bD}{n:Nat}{src dst:TypeId}{x:Operand}{v v':AV}{K:AV->bD->Nat->Prop}{mk:Mark K}(e:v=v'):cvW P env h n src dst x v K mk=cvW P env h n src dst x v' K mk:=by rw[e]
@[simp]theorem Uv(src dst:TypeId)(x:Operand)(o f:Bool)(s:ByteArray)(K:AV->bD->Nat->Prop)(mk:Mark K):cvW P env h n src dst x (.w o f (.str s)) K mk=(rT P src dst=true/\K (.w true false (.sl s.size (mA s))) h n):=rfl
@[simp]theorem Uw(src dst:TypeId)(x:Operand)(o f:Bool)(k:IntKind)(a:Int)(K:AV->bD->Nat->Prop)(mk:Mark K):cvW P env h n src dst x (.w o f (.int k a)) K mk=aW (aOp P h n (ev env) (.convert src dst x)) (eK h n K) .it:=rfl
omit [bJ] in
@[simp]theorem Ux(s:ByteArray):(mA s).length=s.size:=by simp[mA]
@[simp ↓]theorem Uy(s d:TypeId)(x:Operand):dA P env h n (.convert s d x) K=cvW P env h n s d x (ev env x) K .it:=rfl
@[simp ↓]theorem Uz(s d:TypeId)(x:Operand):du P env h n (.convert s d x) Kq=aW (aOp P h n (ev env) (.convert s d x)) Kq .it:=rfl
@[simp ↓]theorem UA(t:TypeId)(x:Operand):dA P env h n (.makeInterface t x) K=aW (aOp P h n (ev env) (.makeInterface t x)) (eK h n K) .it:=rfl
@[simp ↓]theorem UB(t:TypeId)(x:Operand):du P env h n (.makeInterface t x) Kq=aW (aOp P h n (ev env) (.makeInterface t x)) Kq .it:=rfl
@[simp ↓]theorem UC(f:Fn)(a b:Array Operand):dA P env h n (.makeFunc f a b) K=aW (aOp P h n (ev env) (.makeFunc f a b)) (eK h n K) .it:=rfl
@[simp ↓]theorem UD(f:Fn)(a b:Array Operand):du P env h n (.makeFunc f a b) Kq=aW (aOp P h n (ev env) (.makeFunc f a b)) Kq .it:=rfl
@[simp ↓]theorem UE(t:TypeId)(x y:Operand):dA P env h n (.makeSlice t x y) K=aW (aOp P h n (ev env) (.makeSlice t x y)) (eK h n K) .it:=rfl
@[simp ↓]theorem UF(t:TypeId)(x y:Operand):du P env h n (.makeSlice t x y) Kq=aW (aOp P h n (ev env) (.makeSlice t x y)) Kq .it:=rfl
@[simp ↓]theorem UG(t:TypeId)(x:Operand)(l u m:Option Operand):dA P env h n (.slice t x l u m) K=aW (aOp P h n (ev env) (.slice t x l u m)) (eK h n K) .it:=rfl
@[simp ↓]theorem UH(t:TypeId)(x:Operand)(l u m:Option Operand):du P env h n (.slice t x l u m) Kq=aW (aOp P h n (ev env) (.slice t x l u m)) Kq .it:=rfl
@[simp ↓]theorem UI(t:TypeId)(x:Operand)(f:Nat):dA P env h n (.fieldAddr t x f) K=aW (aOp P h n (ev env) (.fieldAddr t x f)) (eK h n K) .it:=rfl
@[simp ↓]theorem UJ(t:TypeId)(x:Operand)(f:Nat):du P env h n (.fieldAddr t x f) Kq=aW (aOp P h n (ev env) (.fieldAddr t x f)) Kq .it:=rfl
@[simp ↓]theorem UK(t:TypeId)(x:Operand)(f:Nat):dA P env h n (.field t x f) K=aW (aOp P h n (ev env) (.field t x f)) (eK h n K) .it:=rfl
@[simp ↓]theorem UL(t:TypeId)(x:Operand)(f:Nat):du P env h n (.field t x f) Kq=aW (aOp P h n (ev env) (.field t x f)) Kq .it:=rfl
@[simp ↓]theorem UM(t:TypeId)(x i:Operand):dA P env h n (.indexAddr t x i) K=aW (aOp P h n (ev env) (.indexAddr t x i)) (eK h n K) .it:=rfl
@[simp ↓]theorem UN(t:TypeId)(x i:Operand):du P env h n (.indexAddr t x i) Kq=aW (aOp P h n (ev env) (.indexAddr t x i)) Kq .it:=rfl
@[simp ↓]theorem UO(t:TypeId)(x i:Operand):dA P env h n (.index t x i) K=aW (aOp P h n (ev env) (.index t x i)) (eK h n K) .it:=rfl
@[simp ↓]theorem UP(t:TypeId)(x i:Operand):du P env h n (.index t x i) Kq=aW (aOp P h n (ev env) (.index t x i)) Kq .it:=rfl
@[simp ↓]theorem UQ(x:Operand)(i:Nat):dA P env h n (.extract x i) K=aW (aOp P h n (ev env) (.extract x i)) (eK h n K) .it:=rfl
@[simp ↓]theorem UR(x:Operand)(i:Nat):du P env h n (.extract x i) Kq=aW (aOp P h n (ev env) (.extract x i)) Kq .it:=rfl
@[simp ↓]theorem zaw(a:Array Operand)(t:Array TypeId):dA P env h n (.call ⟨.builtin .len,a,t⟩) K=aW (aOp P h n (ev env) (.call ⟨.builtin .len,a,t⟩)) (eK h n K) .it:=rfl
@[simp ↓]theorem zax(a:Array Operand)(t:Array TypeId):du P env h n (.call ⟨.builtin .len,a,t⟩) Kq=aW (aOp P h n (ev env) (.call ⟨.builtin .len,a,t⟩)) Kq .it:=rfl
@[simp ↓]theorem zay(a:Array Operand)(t:Array TypeId):dA P env h n (.call ⟨.builtin .max,a,t⟩) K=aW (aOp P h n (ev env) (.call ⟨.builtin .max,a,t⟩)) (eK h n K) .it:=rfl
@[simp ↓]theorem zaz(a:Array Operand)(t:Array TypeId):du P env h n (.call ⟨.builtin .max,a,t⟩) Kq=aW (aOp P h n (ev env) (.call ⟨.builtin .max,a,t⟩)) Kq .it:=rfl
@[simp ↓]theorem za0(a:Array Operand)(t:Array TypeId):dA P env h n (.call ⟨.builtin .min,a,t⟩) K=aW (aOp P h n (ev env) (.call ⟨.builtin .min,a,t⟩)) (eK h n K) .it:=rfl
@[simp ↓]theorem za1(a:Array Operand)(t:Array TypeId):du P env h n (.call ⟨.builtin .min,a,t⟩) Kq=aW (aOp P h n (ev env) (.call ⟨.builtin .min,a,t⟩)) Kq .it:=rfl
@[simp ↓]theorem US(a:Array Operand)(t:Array TypeId):du P env h n (.call ⟨.builtin .append,a,t⟩) Kq=aW (aOp P h n (ev env) (.call ⟨.builtin .append,a,t⟩)) Kq .it:=rfl
def cW(P:Program)(h:bD)(n:Nat)(f:Option (FuncId×List AV))(args:List AV)(K:AV->List (List AV)->Prop)(_:Mark K):Prop:=
 match f with
 |some (g,b8)=>uu P h n g (args++b8) K
 |none=>False
@[congr] theorem UT{P:Program}{h h':bD}{n:Nat}{f f':Option (FuncId×List AV)}{args h5:List AV}{K:AV->List (List AV)->Prop}{mk:Mark K}(h0:h=h')(h1:f=f')(h2:args=h5):cW P h n f args K mk=cW P h' n f' h5 K mk:=by rw[h0,h1,h2]
@[simp ↓]theorem UU(f:Operand)(a:Array Operand)(t:Array TypeId):dA P env h n (.call ⟨.value f,a,t⟩) K=cW P h n (gd (ev env f)) (a.toList.map (ev env)) (eK h n K) .it:=by
 rfl
@[simp ↓]theorem UW(f:Operand)(a:Array Operand)(t:Array TypeId):du P env h n (.call ⟨.value f,a,t⟩) Kq=cW P h n (gd (ev env f)) (a.toList.map (ev env)) Kq .it:=by
 rfl
def fW(P:Program)(n:Nat)(g:FuncId)(a:Option (List PV))(pure:Bool)(K:AV->List (List AV)->Prop)(_:Mark K):Prop:=
 match a with
 |some pvs=>CW P g pvs (λres fr=>(fr=true\/pure=true)/\K (.w (pn fr res) false res) []) (λE v=>K (v.sh n) (E.map (AV.sh.shL n))) .it
 |none=>False
@[congr] theorem UX{P:Program}{n:Nat}{g:FuncId}{a a':Option (List PV)}{p p':Bool}{K:AV->List (List AV)->Prop}{mk:Mark K}(h0:a=a')(h1:p=p'):fW P n g a p K mk=fW P n g a' p' K mk:=by rw[h0,h1]
@[simp]theorem UY(g:FuncId)(b8 args:List AV)(mk:Mark Kq):cW P h n (some (g,b8)) args Kq mk=fW P n g (lJ h (args++b8)) (nj (args++b8)) Kq .it:=rfl
@[simp]theorem UZ(g:FuncId)(pvs:List PV)(p:Bool)(mk:Mark Kq):fW P n g (some pvs) p Kq mk=CW P g pvs (λres fr=>(fr=true\/p=true)/\Kq (.w (pn fr res) false res) []) (λE v=>Kq (v.sh n) (E.map (AV.sh.shL n))) .it:=rfl
end
theorem cw{P:Program}{g:FuncId}{args:List PV}{K:PV->Bool->Prop}{K2:List (List AV)->AV->Prop}{res:PV}{fr:Bool}{mk:Mark (K,K2)}(h:bT P g args res fr)(hk:K res fr):CW P g args K K2 mk:=.inl ⟨res,fr,h,hk⟩
theorem cwM{P:Program}{g:FuncId}{args:List PV}{K:PV->Bool->Prop}{K2:List (List AV)->AV->Prop}{E:List (List AV)}{v:AV}{mk:Mark (K,K2)}(h:og P g args E v)(hk:K2 E v):CW P g args K K2 mk:=.inr ⟨E,v,h,hk⟩
section
omit [bJ]
@[simp]theorem Sj(n:Nat)(o f:Bool)(p:PV):AV.sh n (.w o f p)=.w o f p:=rfl
@[simp]theorem NT(n id v off:Nat):AV.sh n (.ptr id v off)=.ptr (id+n) v off:=rfl
@[simp]theorem NU(n id v sz off k:Nat):AV.sh n (.msl id v sz off k)=.msl (id+n) v sz off k:=rfl
@[simp]theorem NV(n:Nat)(cs:List AV):AV.sh n (.agg cs)=.agg (AV.sh.shL n cs):=rfl
@[simp]theorem NW(n:Nat)(cs:List AV):AV.sh n (.tup cs)=.tup (AV.sh.shL n cs):=rfl
@[simp]theorem U0(n:Nat):AV.sh.shL n []=[]:=rfl
@[simp]theorem U1(n:Nat)(x:AV)(r:List AV):AV.sh.shL n (x::r)=x.sh n::AV.sh.shL n r:=rfl
end
@[simp ↓]theorem U2(P:Program)(b:Code)(K:Exit->St->Prop)(s:St):rV fk P b K .normal s=cX fk P b s K:=rfl
@[simp ↓]theorem U3(P:Program)(b:Code)(K:Exit->St->Prop)(s:St):rV fk P b K .ret s=K .ret s:=rfl
@[simp ↓]theorem U4(P:Program)(b:Code)(K:Exit->St->Prop)(id:Nat)(s:St):rV fk P b K (.exit id) s=K (.exit id) s:=rfl
section
omit [bJ]
@[simp ↓]theorem U5(i:Nat)(K:Exit->St->Prop)(s:St):jd i K .normal s=K .normal s:=rfl
@[simp ↓]theorem U6(i:Nat)(K:Exit->St->Prop)(s:St):jd i K .ret s=K .ret s:=rfl
@[simp ↓]theorem U7(i id:Nat)(K:Exit->St->Prop)(s:St):jd i K (.exit id) s=if id=i then K .normal s else K (.exit id) s:=rfl
@[simp ↓]theorem U8(P:Program)(rs:List ResultVar)(res:PV)(fr:Bool)(s:St):sj P rs res fr .normal s=oD P rs s res fr:=rfl
@[simp ↓]theorem U9(P:Program)(rs:List ResultVar)(res:PV)(fr:Bool)(s:St):sj P rs res fr .ret s=oD P rs s res fr:=rfl
end
theorem nx{fk:Fk}{α:Type}{J:α->Prop}{I:α->St}{μ:α->Nat}{x:α}{K:Exit->St->Prop}{s:St}(y:α)(h:J y)(hle:Lek fk s (I y))(hm:μ y<μ x:=by first|omega|(dsimp only;omega)|(simp;omega)):lK fk J I μ x K .normal s:=⟨y,h,hm,hle⟩
section
variable{α:Type}(J:α->Prop)(I:α->St)(μ:α->Nat)(x:α)(K:Exit->St->Prop)
theorem dJ(y:α)(s:St)(h:J y)(hm:μ y<μ x)(hle:Lek fk s (I y)):lK fk J I μ x K .normal s:=⟨y,h,hm,hle⟩
@[simp ↓]theorem Va(s:St):lK fk J I μ x K .ret s=K .ret s:=rfl
@[simp ↓]theorem Vb(id:Nat)(s:St):lK fk J I μ x K (.exit id) s=K (.exit id) s:=rfl
end
section
variable{β:Type}(id:Nat)(F:β->Prop)(fin:β->St)(R:St->Prop)
@[simp ↓]theorem Vd(s:St):BX fk id F fin R .ret s=R s:=rfl
@[congr] theorem Ve{id:Nat}{F:β->Prop}{fin:β->St}{R:St->Prop}{e e':Exit}{s s':St}(h:e=e')(h2:s=s'):BX fk id F fin R e s=BX fk id F fin R e' s':=by rw[h,h2]
end
@[congr] theorem Vf{P:Program}{b:Code}{K:Exit->St->Prop}{e e':Exit}{s s':St}(h:e=e')(h2:s=s'):rV fk P b K e s=rV fk P b K e' s':=by rw[h,h2]
omit [bJ] in
@[congr] theorem Vg{i:Nat}{K:Exit->St->Prop}{e e':Exit}{s s':St}(h:e=e')(h2:s=s'):jd i K e s=jd i K e' s':=by rw[h,h2]
@[congr] theorem Vh{α:Type}{J:α->Prop}{I:α->St}{μ:α->Nat}{x:α}{K:Exit->St->Prop}{e e':Exit}{s s':St}(h:e=e')(h2:s=s'):lK fk J I μ x K e s=lK fk J I μ x K e' s':=by rw[h,h2]
omit [bJ] in
@[simp]theorem Vi(o f b:Bool)(X Y:Prop):oh (.w o f (.bool b)) X Y=((b=true->X)/\(b=false->Y)):=rfl
omit [bJ] in
@[simp]theorem Vj(o f:Bool)(X Y:Prop):oh (.w o f .jO) X Y=(X/\Y):=rfl
def nG(v:AV)(X Y:Prop)(_:Mark (X,Y)):Prop:=oh v X Y
section
omit [bJ]
@[congr] theorem Vk{v v':AV}{X Y:Prop}{mk:Mark (X,Y)}(h:v=v'):nG v X Y mk=nG v' X Y mk:=by rw[h]
@[simp]theorem Vl(o f:Bool)(X Y:Prop)(mk:Mark (X,Y)):nG (.w o f (.bool true)) X Y mk=X:=by simp[nG,oh]
@[simp]theorem Vm(o f:Bool)(X Y:Prop)(mk:Mark (X,Y)):nG (.w o f (.bool false)) X Y mk=Y:=by simp[nG,oh]
theorem tN{o f b:Bool}{X Y:Prop}{mk:Mark (X,Y)}(hx:b=true->X)(hy:b=false->Y):nG (.w o f (.bool b)) X Y mk:=⟨hx,hy⟩
theorem jJ{o f:Bool}{p:Prop}[Decidable p]{X Y:Prop}{mk:Mark (X,Y)}(hx:p->X)(hy:¬p->Y):nG (.w o f (.bool (decide p))) X Y mk:=⟨λh=>hx av,λh=>hy av⟩
theorem ma{o f:Bool}{p:Prop}[Decidable p]{X Y:Prop}{mk:Mark (X,Y)}(hx:¬p->X)(hy:p->Y):nG (.w o f (.bool (!decide p))) X Y mk:=⟨λh=>hx av,λh=>hy av⟩
end
theorem bP{P:Program}{K:Exit->St->Prop}{st:St}{c:Operand}{x y:Code}(h:nG (ev st.env c) (cX fk P x st K) (cX fk P y st K) .it):cX fk P (.cond c x y) st K:=KB h
omit [bJ] in
@[congr] theorem Vn{v v':AV}{X Y:Prop}(h:v=v'):oh v X Y=oh v' X Y:=by rw[h]
attribute [simp] BQ BN BS BT aOp bin ni AV.ok AV.one AV.isAgg AV.cells setAt pd eqS eqL qy lov hiv frz lJ xu nj isW rK gd iJ iK eh ij pn pvs CM CP CQ ji pG jW oneOf oD fF sr su qH AV.lt AV.lt.ltL uo
section
omit [bJ]
@[simp]theorem Vo:flat .undef=true:=rfl
@[simp]theorem Vp:flat .jO=true:=rfl
@[simp]theorem Vq(b:Bool):flat (.bool b)=true:=rfl
@[simp]theorem Vr(k:IntKind)(n:Int):flat (.int k n)=true:=rfl
@[simp]theorem Vs(s:ByteArray):flat (.str s)=true:=rfl
@[simp]theorem Vt:flat .gJ=true:=rfl
@[simp]theorem Vu(n:Nat)(c:List PV):flat (.sl n c)=false:=rfl
@[simp]theorem Vv(n:Nat)(c:List PV):flat (.ip c n)=false:=rfl
@[simp]theorem Vw(c:List PV):flat (.agg c)=false:=rfl
@[simp]theorem Vx(f:FuncId)(c:List PV):flat (.fn f c)=false:=rfl
@[simp]theorem Vy(z:List AV):ja 0 z=[]:=rfl
@[simp]theorem Vz(n:Nat)(z:AV):ja n [z]=List.replicate n z:=by
 unfold ja
 induction n with
 |zero=>rfl
 |succ n ih=>rw[Dd,List.flatten_cons,ih];rfl
@[simp]theorem VA(x:AV)(l:List AV):mj (x::l) 0=x:=rfl
@[simp]theorem VB(x:AV)(l:List AV)(k:Nat):mj (x::l) (k+1)=mj l k:=rfl
@[simp]theorem VC(x:PV)(l:List PV):fp (x::l) 0=x:=rfl
@[simp]theorem VD(x:PV)(l:List PV)(k:Nat):fp (x::l) (k+1)=fp l k:=rfl
@[simp]theorem Gh{α:Type}[Inhabited α](x:α)(l:List α):nth (x::l) 0=x:=rfl
@[simp]theorem Bi{α:Type}[Inhabited α](x:α)(l:List α)(k:Nat):nth (x::l) (k+1)=nth l k:=rfl
theorem Gi(f:PV->AV)(l:List PV)(k:Nat)(h:k<l.length):mj (l.map f) k=f (fp l k):=by
 simp[mj,fp,eu,jk,dY h]
theorem Gj(s:ByteArray):s=ByteArray.empty↔s.size=0:=by
 simp
@[simp]theorem VE(s:ByteArray)(k:Nat)(h:k<s.size):fp (mA s) k=.int .u8 (um s k):=by
 have:k<s.data.toList.length:=av
 simp[fp,mA,um,eu,jk,dY this]
theorem cu{n:Int}(h1:-9000000000000000000<=n)(h2:n<=9000000000000000000):inI .i64 n:=by
 simp only[inI,IntKind.min,IntKind.max,IntKind.signed,IntKind.bits]
 constructor<;>simp<;>omega
end
end Go.Fi
namespace Go.Fi
open Go
theorem tO{α:Type}(f:α->List PV)(s:Nat)(hf:∀x,(f x).length=s):∀l:List α,(l.flatMap f).length=l.length*s
 |[]=>by simp
 |x::l=>by rw[jq,nK,hf,tO f s hf l,gw,ga];omega
theorem wZ{α:Type}[Inhabited α](f:α->List PV)(s:Nat)(hf:∀x,(f x).length=s):∀(l:List α)(k:Nat),k<l.length->((l.flatMap f).drop (k*s)).take s=f (nth l k)
 |[],k,h=>by simp at h
 |x::l,0,h=>by
  simp_all
 |x::l,k+1,h=>by
  simp only[jq,Bi]
  have e:(k+1)*s=s+k*s:=by rw[ga];omega
  have e2:(f x++l.flatMap f).drop s=l.flatMap f:=by
   rw[List.drop_append_of_le_length (by rw[hf];simp),I5 (by rw[hf];simp),I6]
  rw[e,<-List.drop_drop,e2];exact wZ f s hf l k av
theorem NX(a b:List PV)(j:Nat)(h:j<a.length):fp (a++b) j=fp a j:=by
 simp[fp,eu,qU h]
theorem NY(a b:List PV)(j:Nat):fp (a++b) (a.length+j)=fp b j:=by
 unfold fp;rw[eu,sP ab,eu];simp
theorem qp{α:Type}[Inhabited α](f:α->List PV)(s:Nat)(hf:∀x,(f x).length=s):∀(l:List α)(k j:Nat),k<l.length->j<s->fp (l.flatMap f) (k*s+j)=fp (f (nth l k)) j
 |[],k,j,h,_=>by simp at h
 |x::l,0,j,h,hj=>by
  simp only[jq,IZ,eo,Gh];exact NX _ _ _ (by rw[hf];exact hj)
 |x::l,k+1,j,h,hj=>by
  simp only[jq,Bi]
  have e:(k+1)*s+j=(f x).length+(k*s+j):=by rw[hf,ga];omega
  rw[e,NY];exact qp f s hf l k j av hj
theorem tQ{α:Type}[Inhabited α](f:α->PV)(l:List α)(k:Nat)(h:k<l.length):fp (l.map f) k=f (nth l k):=by
 simp[fp,nth,eu,jk,dY h]
end Go.Fi
namespace Go.Fi
open Go Go.RowKit
variable[bJ]
variable{fk:Fk}
section
variable{P:Program}{K K':Exit->St->Prop}{st st':St}
theorem cj{id:Nat}{x y:Code}(h:cX fk P (.seq x y) st (jd id K)):cX fk P (.block id (.seq x y)) st K:=gS h
theorem ry{id i:Nat}{ops:Array Oper}{b:Bool}(h:cX fk P (.region i ops b) st (jd id K)):cX fk P (.block id (.region i ops b)) st K:=gS h
theorem Gk{c:Code}(h:cX fk P c st K)(hk:∀e s,K e s->∃s',Lek fk s s'/\K' e s'):cX fk P c st K':=
 λB w0 a w m hs=>fo (h B w0 a w m hs) (λe a' w' ⟨st',m',h1,h2⟩=>by
  obtain⟨s',hle,hh⟩:=hk e st' h1;obtain⟨ha,h9⟩:=hle B w0 a' w' m' h2
  grind)
def qJ(fk:Fk){β:Type}(F:β->Prop)(fin:β->St)(s:St):Prop:=∃y,F y/\Lek fk s (fin y)
theorem dp{β:Type}{F:β->Prop}{fin:β->St}{s:St}(y:β)(h:F y)(hle:Lek fk s (fin y)):qJ fk F fin s:=⟨y,h,hle⟩
@[congr] theorem Xj{β:Type}{F:β->Prop}{fin:β->St}{s s':St}(h:s=s'):qJ fk F fin s=qJ fk F fin s':=by rw[h]
def oE(fk:Fk){β:Type}(id:Nat)(F:β->Prop)(fin:β->St)(K:Exit->St->Prop):Exit->St->Prop
 |.exit i,s=>if i=id then qJ fk F fin s else K (.exit i) s
 |.normal,_=>False
 |e,s=>K e s
@[simp]theorem Xk{β:Type}(id i:Nat)(F:β->Prop)(fin:β->St)(s:St):oE fk id F fin K (.exit i) s=if i=id then qJ fk F fin s else K (.exit i) s:=rfl
@[simp]theorem Xl{β:Type}(id:Nat)(F:β->Prop)(fin:β->St)(s:St):oE fk id F fin K .ret s=K .ret s:=rfl
@[congr] theorem Xm{β:Type}{id:Nat}{F:β->Prop}{fin:β->St}{e e':Exit}{s s':St}(h:e=e')(h2:s=s'):oE fk id F fin K e s=oE fk id F fin K e' s':=by rw[h,h2]
def gF(env:Env):List Nat->Env
 |[]=>[]
 |k::ks=>(k,get env k)::gF env ks
omit [bJ] in
@[simp]theorem Xn(env:Env):gF env []=[]:=rfl
omit [bJ] in
@[simp]theorem Xo(env:Env)(k:Nat)(ks:List Nat):gF env (k::ks)=(k,get env k)::gF env ks:=rfl
theorem w9{c:Code}{id:Nat}{env:Env}{h:bD}{n nt:Nat}{α β:Type}(J:α->Prop)(ks:List Nat)(mods:α->Env)(hf:α->bD)(μ:α->Nat)(F:β->Prop)(fks:List Nat)(fmods:β->Env)(ff:β->bD)(x0:α)(hJ:J x0)(h0:su env n (mods x0++gF env ks))(h1:qH h n (hf x0))(round:∀x,J x->cX fk P c ⟨mods x++gF env ks,hf x,n,nt⟩ (lK fk J (λx=>⟨mods x++gF env ks,hf x,n,nt⟩) μ x (oE fk id F (λy=>⟨fmods y++gF env fks,ff y,n,nt⟩) K)))(after:∀y,F y->K .normal ⟨fmods y++gF env fks,ff y,n,nt⟩):cX fk P (.block id (.loop c)) ⟨env,h,n,nt⟩ K:=by
 refine KC (λhk=>gS (Gk (zq J (λx=>⟨mods x++gF env ks,hf x,n,nt⟩) μ x0 hJ (cg h0 h1 hk) round) (λe s hk=>?_)))
 cases e<;>first
  |exact hk.elim
  |exact⟨s,Lek.refl s,hk⟩
  |(simp only[oE] at hk
    simp only[jd];split at hk
    .rename_i h8;obtain⟨y,hy,hle⟩:=hk
     grind
    .rename_i h8
     exact⟨s,Lek.refl s,by rw[bH h8];exact hk⟩)
def uI(fk:Fk){β:Type}(F:β->Prop)(fin:β->St)(K:Exit->St->Prop):Exit->St->Prop
 |.normal,s=>qJ fk F fin s
 |e,s=>K e s
@[simp]theorem Xp{β:Type}(F:β->Prop)(fin:β->St)(s:St):uI fk F fin K .normal s=qJ fk F fin s:=rfl
@[simp]theorem Xq{β:Type}(i:Nat)(F:β->Prop)(fin:β->St)(s:St):uI fk F fin K (.exit i) s=K (.exit i) s:=rfl
@[simp]theorem Xr{β:Type}(F:β->Prop)(fin:β->St)(s:St):uI fk F fin K .ret s=K .ret s:=rfl
@[congr] theorem Xs{β:Type}{F:β->Prop}{fin:β->St}{e e':Exit}{s s':St}(h:e=e')(h2:s=s'):uI fk F fin K e s=uI fk F fin K e' s':=by rw[h,h2]
end
omit [bJ] in
@[simp]theorem NZ(h:bD)(o f:Bool):∀l:List PV,lJ h (l.map (.w o f))=some l
 |[]=>rfl
 |p::r=>by simp[lJ,frz,NZ h o f r]
omit [bJ] in
@[simp]theorem N3(o f:Bool):∀l:List PV,nj (l.map (.w o f))=true
 |[]=>rfl
 |p::r=>by simp[nj,xu,N3 o f r]
end Go.Fi
namespace Go.Fi
open Go Go.RowKit
open Go.Conc (G)
section
variable{P:Program}{b:Frame}{a:Act}{k:List Item}{cs:List Frame}{w:World}
theorem ON{c:Code}:stepG P true (G (b.atR a (.code (.scope c)::k)) cs) w=.go (G (b.atR a (.code c::.inScope c::k)) cs) w #[]:=by rfl
theorem OO{c:Code}:stepG P true (G (b.atR a (.inScope c::k)) cs) w=.go (G (b.atR a k) cs) w #[]:=by rfl
end
section
variable[EnvD]
variable{P:Program}{r:Option Nat}{Q:Exit->Act->World->Prop}{a:Act}{w:World}
theorem OP{c:Code}(h:c.wpT r P Q a w):(Code.scope c).wpT r P Q a w:=by
 intro b k cs hr hk;refine .quiet _ _ (λ_=>ON) dE ((h b (.inScope c::k) cs hr hk).bind ?_)
 rintro fr cs' w' ⟨rfl,e,a',hq,he⟩
 cases e with
 |normal=>subst he;exact .quiet _ _ (λ_=>OO) dE (.now ⟨rfl,.normal,a',hq,rfl⟩)
 |exit id=>
  obtain⟨k1,h1,rfl⟩:=he;exact .now ⟨rfl,.exit id,a',hq,k1,h1.trans (by simp[exitTo]),rfl⟩
 |ret=>obtain⟨k1,rfl⟩:=he;exact .now ⟨rfl,.ret,a',hq,k1,rfl⟩
 |_=>exact he.elim
end
variable[bJ]
variable{fk:Fk}{P:Program}{K:Exit->St->Prop}{st:St}
theorem GZ{c:Code}(h:cX fk P c st K):cX fk P (.scope c) st K:=λB w0 a w m hs=>OP (h B w0 a w m hs)
theorem G0{l:Nat}(h:K .normal st):cX fk P (.label l) st K:=λ_ _ _ _ m hs=>Jq ⟨st,m,h,hs⟩
end Go.Fi
