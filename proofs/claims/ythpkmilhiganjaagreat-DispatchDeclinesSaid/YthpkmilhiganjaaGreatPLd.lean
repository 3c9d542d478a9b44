/- Lemmas. -/
import Derived.Test.YthpkmilhiganjaaGreatPLc
set_option linter.all false
set_option maxHeartbeats 32000000
set_option maxRecDepth 100000
namespace Go.Fi
open Go Go.RowKit
variable[ak]
variable{fk:Fk}
@[congr] theorem Ss{P:Program}{c:Code}{st st':St}{K:Exit->St->Prop}(h:st=st'):aS fk P c st K=aS fk P c st' K:=by rw[h]
@[congr] theorem Su{P:Program}{ops:Array Oper}{nt:Nat}{os:List Oper}{e e':Env}{h h':ae}{n n':Nat}{K:Env->ae->Nat->Prop}(h1:e=e')(h2:h=h')(h3:n=n'):bD P ops nt os e h n K=bD P ops nt os e' h' n' K:=by rw[h1,h2,h3]
@[congr] theorem Sv{P:Program}{ops:Array Oper}{nt:Nat}{os:List Oper}{e e':Env}{h h':ae}{n n':Nat}{K:Env->ae->Nat->Prop}(h1:e=e')(h2:h=h')(h3:n=n'):fF P ops nt os e h n K=fF P ops nt os e' h' n' K:=by rw[h1,h2,h3]
@[congr] theorem Sw{P:Program}{env env':Env}{h h':ae}{n n':Nat}{op:Op}{K:AV->ae->Nat->Prop}(h1:env=env')(h2:h=h')(h3:n=n'):bn P env h n op K=bn P env' h' n' op K:=by rw[h1,h2,h3]
@[congr] theorem Sx{P:Program}{env env':Env}{h h':ae}{n n':Nat}{op:Op}{K:AV->List (List AV)->Prop}(h1:env=env')(h2:h=h')(h3:n=n'):bj P env h n op K=bj P env' h' n' op K:=by rw[h1,h2,h3]
@[congr] theorem Sy{P:Program}{g:FuncId}{args h5:List PV}{K:PV->Bool->Prop}{K2:List (List AV)->AV->Prop}{mk:Mark (K,K2)}(h:args=h5):CW P g args K K2 mk=CW P g h5 K K2 mk:=by rw[h]
def aW(r:Option (Prop×AV×List (List AV)))(K:AV->List (List AV)->Prop)(_:Mark K):Prop:=
 match r with
 |some (c,v,E)=>c/\K v E
 |none=>False
section
omit [ak]
@[congr] theorem Sz{r r':Option (Prop×AV×List (List AV))}{K:AV->List (List AV)->Prop}{mk:Mark K}(h:r=r'):aW r K mk=aW r' K mk:=by rw[h]
@[simp]theorem SB(c:Prop)(v:AV)(E:List (List AV))(K:AV->List (List AV)->Prop)(mk:Mark K):aW (some (c,v,E)) K mk=(c/\K v E):=rfl
@[simp]theorem SC(K:AV->List (List AV)->Prop)(mk:Mark K):aW none K mk=False:=rfl
end
section
variable{P:Program}{ops:Array Oper}{nt:Nat}{env:Env}{h:ae}{n:Nat}
@[simp ↓]theorem SD(K:Env->ae->Nat->Prop):bD P ops nt [] env h n K=K env h n:=rfl
@[simp ↓]theorem SE(K:Env->ae->Nat->Prop):fF P ops nt [] env h n K=K env h n:=rfl
section
omit [ak]
@[simp]theorem SF(d:Nat):dOk nt (some d)=(d<nt):=rfl
@[simp]theorem SG:dOk nt none=True:=rfl
@[simp]theorem SH(d:Nat)(v:AV):put env (some d) v=(d,v)::env:=rfl
@[simp]theorem SI(v:AV):put env none v=env:=rfl
@[simp]theorem SJ:aX h n []=h:=rfl
@[simp]theorem SK(c:List AV):aX h n [c]=(n,c)::h:=rfl
@[simp]theorem SL(t:Nat):get [] t=.w false false .undef:=rfl
@[simp]theorem SN(k t:Nat)(v:AV):get ((k,v)::env) t=if k=t then v else get env t:=rfl
@[simp]theorem SO(k t:Nat)(v:List AV):aU ((k,v)::h) t=if k=t then some v else aU h t:=rfl
@[simp]theorem SP(t:Nat):aU [] t=none:=rfl
@[simp]theorem SQ(k t:Nat)(v x:List AV):bu ((k,v)::h) t x=if k=t then (k,x)::h else (k,v)::bu h t x:=rfl
@[simp]theorem SR(t:Nat):ev env (.tmp t)=get env t:=rfl
@[simp]theorem SS(v:Value):ev env (.const v)=cst v:=rfl
@[simp]theorem SU(f:FuncId):ev env (.func f)=.fn f []:=rfl
end
attribute [simp] cst lT
@[simp ↓]theorem SV(dst:Option Tmp)(op:Op)(ty:TypeId)(pos:String)(after:Array Edge)(os:List Oper)(K:Env->ae->Nat->Prop):bD P ops nt (⟨dst,op,ty,pos,after,none⟩::os) env h n K=(dOk nt dst/\bn P env h n op λv h' n'=>bD P ops nt os (put env dst v) h' n' K):=by
 simp[bD,fE]
@[simp ↓]theorem SW(dst:Option Tmp)(op:Op)(ty:TypeId)(pos:String)(after:Array Edge)(os:List Oper)(K:Env->ae->Nat->Prop):fF P ops nt (⟨dst,op,ty,pos,after,none⟩::os) env h n K=(dOk nt dst/\bj P env h n op λv E=>fF P ops nt os (put env dst v) (aX h n E) (n+E.length) K):=by
 simp[fF,fE]
def gW(g:Option Bool)(X Y:Prop):Prop:=
 match g with
 |some b=>(b=true->X)/\(b=false->Y)
 |none=>False
section
omit [ak]
@[congr] theorem SX{g g':Option Bool}{X Y:Prop}(h:g=g'):gW g X Y=gW g' X Y:=by rw[h]
@[simp]theorem As(X Y:Prop):gW (some true) X Y=X:=by simp[gW]
@[simp]theorem At(X Y:Prop):gW (some false) X Y=Y:=by simp[gW]
end
def tL(v:AV)(want:Bool):Option Bool:=
 match v with
 |.w _ _ (.bool b)=>some (b==want)
 |.tup []=>some false
 |_=>none
omit [ak] in
@[simp]theorem SY(o f b want:Bool):tL (.w o f (.bool b)) want=some (b==want):=rfl
omit [ak] in
@[simp]theorem SZ(want:Bool):tL (.tup []) want=some false:=rfl
def gOf(ops:Array Oper)(env:Env)(j:Nat)(want:Bool):Option Bool:=
 match cO ops j with
 |none=>some false
 |some t=>tL (get env t) want
omit [ak] in
theorem Ax(dst:Option Tmp)(op:Op)(ty:TypeId)(pos:String)(after:Array Edge)(j:Nat)(want:Bool):fE ops env ⟨dst,op,ty,pos,after,some (j,want)⟩=gOf ops env j want:=by
 rfl
theorem M9(dst:Option Tmp)(op:Op)(ty:TypeId)(pos:String)(after:Array Edge)(j:Nat)(want:Bool)(os:List Oper)(K:Env->ae->Nat->Prop):bD P ops nt (⟨dst,op,ty,pos,after,some (j,want)⟩::os) env h n K=(dOk nt dst/\gW (gOf ops env j want) (bn P env h n op λv h' n'=>bD P ops nt os (put env dst v) h' n' K) (bD P ops nt os (put env dst (.tup [])) h n K)):=by
 conv=>lhs;unfold bD
 rw[Ax]
 cases gOf ops env j want<;>simp[gW]
theorem Na(dst:Option Tmp)(op:Op)(ty:TypeId)(pos:String)(after:Array Edge)(j:Nat)(want:Bool)(os:List Oper)(K:Env->ae->Nat->Prop):fF P ops nt (⟨dst,op,ty,pos,after,some (j,want)⟩::os) env h n K=(dOk nt dst/\gW (gOf ops env j want) (bj P env h n op λv E=>fF P ops nt os (put env dst v) (aX h n E) (n+E.length) K) (fF P ops nt os (put env dst (.tup [])) h n K)):=by
 conv=>lhs;unfold fF
 rw[Ax]
 cases gOf ops env j want<;>simp[gW]
def gM(g:Option Bool)(X Y:Prop)(_:Mark (X,Y)):Prop:=gW g X Y
section
omit [ak]
@[congr] theorem S1{g g':Option Bool}{X Y:Prop}{mk:Mark (X,Y)}(h:g=g'):gM g X Y mk=gM g' X Y mk:=by rw[h]
theorem dj{b:Bool}{X Y:Prop}{mk:Mark (X,Y)}(hx:b=true->X)(hy:b=false->Y):gM (some b) X Y mk:=⟨hx,hy⟩
theorem dk{b:Bool}{X Y:Prop}{mk:Mark (X,Y)}(hx:b=false->X)(hy:b=true->Y):gM (some (!b)) X Y mk:=⟨λh=>hx (by simpa using h),λh=>hy (by simpa using h)⟩
end
def gE(g:Option Bool)(P:Program)(env:Env)(h:ae)(n:Nat)(op:Op)(K:AV->ae->Nat->Prop)(_:Mark K):Prop:=gW g (bn P env h n op K) (K (.tup []) h n)
def gQ(g:Option Bool)(P:Program)(env:Env)(h:ae)(n:Nat)(op:Op)(K:AV->List (List AV)->Prop)(_:Mark K):Prop:=gW g (bj P env h n op K) (K (.tup []) [])
@[congr] theorem S3{g g':Option Bool}{P:Program}{env env':Env}{h h':ae}{n n':Nat}{op:Op}{K:AV->ae->Nat->Prop}{mk:Mark K}(e1:g=g')(e2:env=env')(e3:h=h')(e4:n=n'):gE g P env h n op K mk=gE g' P env' h' n' op K mk:=by rw[e1,e2,e3,e4]
@[congr] theorem S4{g g':Option Bool}{P:Program}{env env':Env}{h h':ae}{n n':Nat}{op:Op}{K:AV->List (List AV)->Prop}{mk:Mark K}(e1:g=g')(e2:env=env')(e3:h=h')(e4:n=n'):gQ g P env h n op K mk=gQ g' P env' h' n' op K mk:=by rw[e1,e2,e3,e4]
section
variable{op:Op}{K:AV->ae->Nat->Prop}{mk:Mark K}{Kq:AV->List (List AV)->Prop}{mkq:Mark Kq}{b:Bool}{p:Prop}[Decidable p]
@[simp]theorem S5:gE (some true) P env h n op K mk=bn P env h n op K:=by unfold gE;exact As _ _
@[simp]theorem S6:gE (some false) P env h n op K mk=K (.tup []) h n:=by unfold gE;exact At _ _
@[simp]theorem S7:gQ (some true) P env h n op Kq mkq=bj P env h n op Kq:=by unfold gQ;exact As _ _
@[simp]theorem S8:gQ (some false) P env h n op Kq mkq=Kq (.tup []) []:=by unfold gQ;exact At _ _
theorem vU(hx:b=true->bn P env h n op K)(hy:b=false->K (.tup []) h n):gE (some b) P env h n op K mk:=⟨hx,hy⟩
theorem vV(hx:b=false->bn P env h n op K)(hy:b=true->K (.tup []) h n):gE (some (!b)) P env h n op K mk:=⟨λh=>hx (by simpa using h),λh=>hy (by simpa using h)⟩
theorem Nb(hx:p->bn P env h n op K)(hy:¬p->K (.tup []) h n):gE (some (decide p)) P env h n op K mk:=⟨λh=>hx (by simpa using h),λh=>hy (by simpa using h)⟩
theorem Nc(hx:¬p->bn P env h n op K)(hy:p->K (.tup []) h n):gE (some (!decide p)) P env h n op K mk:=⟨λh=>hx (by simpa using h),λh=>hy (by simpa using h)⟩
end
section
variable{dst:Option Tmp}{op:Op}{ty:TypeId}{pos:String}{after:Array Edge}{j:Nat}{want:Bool}{os:List Oper}
@[simp ↓]theorem Ta{K:Env->ae->Nat->Prop}:bD P ops nt (⟨dst,op,ty,pos,after,some (j,want)⟩::os) env h n K=(dOk nt dst/\gE (gOf ops env j want) P env h n op (λv h' n'=>bD P ops nt os (put env dst v) h' n' K) .it):=M9 ..
@[simp ↓]theorem Tb{K:Env->ae->Nat->Prop}:fF P ops nt (⟨dst,op,ty,pos,after,some (j,want)⟩::os) env h n K=(dOk nt dst/\gQ (gOf ops env j want) P env h n op (λv E=>fF P ops nt os (put env dst v) (aX h n E) (n+E.length) K) .it):=Na ..
end
def mq:List Oper->Nat->Option Tmp
 |[],_=>none
 |o::_,0=>o.dst
 |_::r,k+1=>mq r k
omit [ak] in
@[simp]theorem Tc(o:Oper)(r:List Oper):mq (o::r) 0=o.dst:=by rw[mq]
omit [ak] in
@[simp]theorem Td(o:Oper)(r:List Oper)(k:Nat):mq (o::r) (k+1)=mq r k:=by rw[mq]
def gV(env:Env)(d:Option Tmp)(want:Bool):Option Bool:=
 match d with
 |none=>some false
 |some t=>tL (get env t) want
section
omit [ak]
@[simp]theorem Te(t:Tmp)(want:Bool):gV env (some t) want=tL (get env t) want:=rfl
theorem FD:∀(l:List Oper)(j:Nat),mq l j=(l[j]?).bind (·.dst)
 |[],j=>by simp[mq]
 |o::r,0=>rfl
 |o::r,j+1=>by simp only[mq,tX];exact FD r j
@[simp]theorem Tf(l:List Oper)(j:Nat)(want:Bool):gOf l.toArray env j want=gV env (mq l j) want:=by
 unfold gOf cO gV;rw[xm,FD]
 cases (l[j]?).bind (·.dst)<;>rfl
end
@[simp ↓]theorem Tg(x:Operand)(K:AV->ae->Nat->Prop):bn P env h n (.move x) K=K (ev env x) h n:=by simp[bn,bj,aOp]
@[simp ↓]theorem Ti(x:Operand)(K:AV->ae->Nat->Prop):bn P env h n (.assign x) K=K (ev env x) h n:=by simp[bn,bj,aOp]
@[simp ↓]theorem Tj(x:Operand)(K:AV->List (List AV)->Prop):bj P env h n (.move x) K=K (ev env x) []:=by simp[bj,aOp]
@[simp ↓]theorem Tk(x:Operand)(K:AV->List (List AV)->Prop):bj P env h n (.assign x) K=K (ev env x) []:=by simp[bj,aOp]
end
def BZ(h:ae)(ty:Option (Nat×Bool))(ad x:AV):Option (Prop×ae):=
 match ty,ad with
 |some (sz,_),.ptr id ver off=>
  match aU h id with
  |some cells=>some ((cells.length=ver/\x.ok=true/\x.cells.length=sz/\off+sz<=cells.length/\dh x.cells=true),bu h id (setAt cells off x.cells))
  |none=>none
 |_,_=>none
def B7(P:Program)(h:ae)(n:Nat)(t tx:TypeId)(s x:AV):Option (Prop×AV×ae×Nat):=
 match slE P t,slE P tx with
 |some (e,sz),some _=>
  match byE P e,dW P e,gO h sz x with
  |some by_,some z,some (k2,news,c)=>
   match s with
   |.msl id ver z' off k=>
    match aU h id with
    |some cells=>some ((c/\off=0/\cells.length=ver/\z'=sz/\z.length=sz/\0<sz/\k*sz<=ver/\k+k2<=1000000000/\by_<=100000/\dh news=true),
      .msl id (gP cells (k*sz) news).length sz 0 (k+k2),bu h id (gP cells (k*sz) news),n)
    |none=>none
   |.w own true (.sl k cells)=>
    bif own&&decide (k=0)&&cells.isEmpty then some ((c/\0<k2/\z.length=sz/\0<sz/\k2<=1000000000/\by_<=100000),.msl n news.length sz 0 k2,(n,news)::h,n+1)
    else match pvs news with
     |some q=>some ((c/\cells.length=k*sz/\z.length=sz/\0<sz/\k+k2<=1000000000/\by_<=100000),.w (fD q&&(own || cells.isEmpty)) false (.sl (k+k2) (cells++q)),h,n)
     |none=>none
   |_=>none
  |_,_,_=>none
 |_,_=>none
def B8(P:Program)(h:ae)(n:Nat)(args:List AV)(tys:List TypeId):Option (Prop×AV×ae×Nat):=
 match args,tys with
 |[s,x],[t,tx]=>B7 P h n t tx s x
 |_,_=>none
def sM(r:Option (Prop×ae))(n:Nat)(K:AV->ae->Nat->Prop)(_:Mark K):Prop:=
 match r with
 |some (c,h')=>c/\K (.tup []) h' n
 |none=>False
def pM(r:Option (Prop×AV×ae×Nat))(K:AV->ae->Nat->Prop)(_:Mark K):Prop:=
 match r with
 |some (c,v,h',n')=>c/\K v h' n'
 |none=>False
section
omit [ak]
@[congr] theorem Tl{r r':Option (Prop×ae)}{n n':Nat}{K:AV->ae->Nat->Prop}{mk:Mark K}(h:r=r')(h2:n=n'):sM r n K mk=sM r' n' K mk:=by rw[h,h2]
@[congr] theorem Tm{r r':Option (Prop×AV×ae×Nat)}{K:AV->ae->Nat->Prop}{mk:Mark K}(h:r=r'):pM r K mk=pM r' K mk:=by rw[h]
@[simp]theorem Tn(c:Prop)(h':ae)(n:Nat)(K:AV->ae->Nat->Prop)(mk:Mark K):sM (some (c,h')) n K mk=(c/\K (.tup []) h' n):=rfl
@[simp]theorem To(c:Prop)(v:AV)(h':ae)(n':Nat)(K:AV->ae->Nat->Prop)(mk:Mark K):pM (some (c,v,h',n')) K mk=(c/\K v h' n'):=rfl
end
@[simp ↓]theorem Tp{P:Program}{env:Env}{h:ae}{n:Nat}(t:TypeId)(ad x:Operand)(K:AV->ae->Nat->Prop):bn P env h n (.store t ad x) K=sM (BZ h (tyL P t) (ev env ad) (ev env x)) n K .it:=by
 show na P env h n t ad x K=_;unfold na BZ
 cases tyL P t with
 |none=>cases ev env ad<;>rfl
 |some y=>
  obtain⟨sz,g⟩:=y
  cases ev env ad with
  |ptr id ver off=>dsimp only;cases aU h id<;>rfl
  |_=>rfl
@[simp ↓]theorem Tq{P:Program}{env:Env}{h:ae}{n:Nat}(args:Array Operand)(tys:Array TypeId)(K:AV->ae->Nat->Prop):bn P env h n (.call ⟨.builtin .append,args,tys⟩) K=pM (B8 P h n (args.toList.map (ev env)) tys.toList) K .it:=by
 show m9 P env h n args.toList tys.toList K=_;generalize args.toList=la;generalize tys.toList=lt;unfold m9 B8
 match la,lt with
 |[s,x],[t,tx]=>
  simp only[List.map];unfold B7
  cases slE P t with
  |none=>rfl
  |some y=>
   obtain⟨e,sz⟩:=y
   cases slE P tx with
   |none=>rfl
   |some y2=>
    dsimp only
    cases byE P e with
    |none=>rfl
    |some by_=>
     cases dW P e with
     |none=>rfl
     |some z=>
      cases gO h sz (ev env x) with
      |none=>rfl
      |some y3=>
       obtain⟨k2,news,c⟩:=y3;dsimp only
       cases ev env s with
       |msl id ver z' off k=>dsimp only;cases aU h id<;>rfl
       |w own f p=>
        cases f with
        |false=>rfl
        |true=>
         cases p with
         |sl k cells=>
          dsimp only
          cases (own&&decide (k=0)&&cells.isEmpty) with
          |true=>rfl
          |false=>simp only[cond_false];cases pvs news<;>rfl
         |_=>rfl
       |_=>rfl
 |[],_=>simp[pM]
 |[_],_=>simp[pM]
 |_::_::_::_,_=>simp[pM]
 |[_,_],[]=>simp[pM]
 |[_,_],[_]=>simp[pM]
 |[_,_],_::_::_::_=>simp[pM]
@[simp ↓]theorem Ts{P:Program}{env:Env}{h:ae}{n:Nat}(args:Array Operand)(tys:Array TypeId)(K:AV->ae->Nat->Prop):bn P env h n (.call ⟨.builtin .copy,args,tys⟩) K=pM ((qP P h (args.toList.map (ev env)) tys.toList).map λy=>(y.1,y.2.1,y.2.2,n)) K .it:=by
 show ng P env h n args.toList tys.toList K=_;unfold ng
 cases qP P h (args.toList.map (ev env)) tys.toList with
 |none=>rfl
 |some y=>rfl
attribute [simp] qP oE shr
def eK(h:ae)(n:Nat)(K:AV->ae->Nat->Prop):AV->List (List AV)->Prop:=λv E=>K v (aX h n E) (n+E.length)
omit [ak] in
@[simp ↓]theorem Tt(h:ae)(n:Nat)(K:AV->ae->Nat->Prop)(v:AV):eK h n K v []=K v h n:=by rfl
omit [ak] in
@[simp ↓]theorem Tu(h:ae)(n:Nat)(K:AV->ae->Nat->Prop)(v:AV)(c:List AV):eK h n K v [c]=K v ((n,c)::h) (n+1):=by rfl
section
variable{P:Program}{env:Env}{h:ae}{n:Nat}(K:AV->ae->Nat->Prop)(Kq:AV->List (List AV)->Prop)
def gdV(b:Bool)(v:AV):AV:=bif b then v else .tup []
omit [ak] in
@[simp]theorem FE(v:AV):gdV true v=v:=rfl
omit [ak] in
@[simp]theorem Nd(v:AV):gdV false v=.tup []:=rfl
def pkW(c x y:AV)(K:AV->List (List AV)->Prop)(_:Mark K):Prop:=
 match c with
 |.w _ _ (.bool t)=>
  match x,y with
  |.w _ _ (.bool a),.w _ _ (.bool b)=>K (.w false false (.bool (bif t then a else b))) []
  |x,y=>K (bif t then x else y) []
 |_=>False
omit [ak] in
@[congr] theorem Tx{c c' x x' y y':AV}{K:AV->List (List AV)->Prop}{mk:Mark K}(h1:c=c')(h2:x=x')(h3:y=y'):pkW c x y K mk=pkW c' x' y' K mk:=by rw[h1,h2,h3]
section
variable{K:AV->List (List AV)->Prop}{mk:Mark K}
section
omit [ak]
@[simp]theorem Ty(o f t o1 f1 a o2 f2 b:Bool):pkW (.w o f (.bool t)) (.w o1 f1 (.bool a)) (.w o2 f2 (.bool b)) K mk=K (.w false false (.bool (bif t then a else b))) []:=rfl
@[simp]theorem TA(o f t:Bool)(l:List AV)(y:AV):pkW (.w o f (.bool t)) (.tup l) y K mk=K (bif t then .tup l else y) []:=rfl
@[simp]theorem TB(o f t:Bool)(l:List AV)(x:AV):pkW (.w o f (.bool t)) x (.tup l) K mk=K (bif t then x else .tup l) []:=by
 unfold pkW;simp only
end
@[simp ↓]theorem Nf(c x y:Operand):bj P env h n (.pick c x y) K=pkW (ev env c) (ev env x) (ev env y) K .it:=by
 simp only[bj,aOp,pkW];generalize ev env c=cv;generalize ev env x=xv;generalize ev env y=yv
 cases cv with
 |w o f v=>
  cases v with
  |bool t=>
   simp only;split
   .rename_i e1;split at e1<;>(injection e1 with e1;injection e1 with e1 e;injection e with e2 e3;subst e1;subst e2;subst e3;simp)
   .rename_i e1;split at e1<;>cases e1
  |_=>rfl
 |_=>rfl
@[simp ↓]theorem TC(c x y:Operand)(K:AV->ae->Nat->Prop):bn P env h n (.pick c x y) K=pkW (ev env c) (ev env x) (ev env y) (eK h n K) .it:=by
 rw[<-Nf];rfl
end
@[simp ↓]theorem TD(t:TypeId):bn P env h n (.alloc t) K=aW (aOp P h n (ev env) (.alloc t)) (eK h n K) .it:=rfl
@[simp ↓]theorem TE(t:TypeId):bj P env h n (.alloc t) Kq=aW (aOp P h n (ev env) (.alloc t)) Kq .it:=rfl
@[simp ↓]theorem ZT(t:TypeId)(x:Operand):bn P env h n (.box t x) K=aW (aOp P h n (ev env) (.box t x)) (eK h n K) .it:=rfl
@[simp ↓]theorem ZU(t:TypeId)(x:Operand):bj P env h n (.box t x) Kq=aW (aOp P h n (ev env) (.box t x)) Kq .it:=rfl
@[simp ↓]theorem TF(t:TypeId)(ps:Array (Nat×Operand)):bn P env h n (.build t ps) K=aW (aOp P h n (ev env) (.build t ps)) (eK h n K) .it:=rfl
@[simp ↓]theorem TG(t:TypeId)(ps:Array (Nat×Operand)):bj P env h n (.build t ps) Kq=aW (aOp P h n (ev env) (.build t ps)) Kq .it:=rfl
@[simp ↓]theorem TH(t:TypeId)(l:Nat)(ps:Array (Nat×Operand)):bn P env h n (.buildSlice t l ps) K=aW (aOp P h n (ev env) (.buildSlice t l ps)) (eK h n K) .it:=rfl
@[simp ↓]theorem TI(t:TypeId)(l:Nat)(ps:Array (Nat×Operand)):bj P env h n (.buildSlice t l ps) Kq=aW (aOp P h n (ev env) (.buildSlice t l ps)) Kq .it:=rfl
@[simp ↓]theorem TJ(t:TypeId)(x:Operand):bn P env h n (.load t x) K=aW (aOp P h n (ev env) (.load t x)) (eK h n K) .it:=rfl
@[simp ↓]theorem TK(t:TypeId)(x:Operand):bj P env h n (.load t x) Kq=aW (aOp P h n (ev env) (.load t x)) Kq .it:=rfl
@[simp ↓]theorem TL(x:Operand):bn P env h n (.nilCheck x) K=aW (aOp P h n (ev env) (.nilCheck x)) (eK h n K) .it:=rfl
@[simp ↓]theorem TM(x:Operand):bj P env h n (.nilCheck x) Kq=aW (aOp P h n (ev env) (.nilCheck x)) Kq .it:=rfl
@[simp ↓]theorem TO(op:BinOp)(t:TypeId)(x y:Operand)(yt:TypeId):bn P env h n (.binOp op t x y yt) K=aW (aOp P h n (ev env) (.binOp op t x y yt)) (eK h n K) .it:=rfl
@[simp ↓]theorem TP(op:BinOp)(t:TypeId)(x y:Operand)(yt:TypeId):bj P env h n (.binOp op t x y yt) Kq=aW (aOp P h n (ev env) (.binOp op t x y yt)) Kq .it:=rfl
@[simp ↓]theorem TR(op:UnOp)(t:TypeId)(x:Operand):bn P env h n (.unOp op t x) K=aW (aOp P h n (ev env) (.unOp op t x)) (eK h n K) .it:=rfl
@[simp ↓]theorem TT(op:UnOp)(t:TypeId)(x:Operand):bj P env h n (.unOp op t x) Kq=aW (aOp P h n (ev env) (.unOp op t x)) Kq .it:=rfl
def cvW(P:Program)(env:Env)(h:ae)(n:Nat)(src dst:TypeId)(x:Operand)(v:AV)(K:AV->ae->Nat->Prop)(_:Mark K):Prop:=
 match v with
 |.w _ _ (.str s)=>qR P src dst=true/\K (.w true false (.sl s.size (k9 s))) h n
 |_=>bj P env h n (.convert src dst x) λv E=>K v (aX h n E) (n+E.length)
@[congr] theorem TU{P:Program}{env:Env}{h:ae}{n:Nat}{src dst:TypeId}{x:Operand}{v v':AV}{K:AV->ae->Nat->Prop}{mk:Mark K}(e:v=v'):cvW P env h n src dst x v K mk=cvW P env h n src dst x v' K mk:=by rw[e]
@[simp]theorem TV(src dst:TypeId)(x:Operand)(o f:Bool)(s:ByteArray)(K:AV->ae->Nat->Prop)(mk:Mark K):cvW P env h n src dst x (.w o f (.str s)) K mk=(qR P src dst=true/\K (.w true false (.sl s.size (k9 s))) h n):=rfl
@[simp]theorem TW(src dst:TypeId)(x:Operand)(o f:Bool)(k:IntKind)(a:Int)(K:AV->ae->Nat->Prop)(mk:Mark K):cvW P env h n src dst x (.w o f (.int k a)) K mk=aW (aOp P h n (ev env) (.convert src dst x)) (eK h n K) .it:=rfl
omit [ak] in
@[simp]theorem TX(s:ByteArray):(k9 s).length=s.size:=by simp[k9]
@[simp ↓]theorem TY(s d:TypeId)(x:Operand):bn P env h n (.convert s d x) K=cvW P env h n s d x (ev env x) K .it:=rfl
@[simp ↓]theorem TZ(s d:TypeId)(x:Operand):bj P env h n (.convert s d x) Kq=aW (aOp P h n (ev env) (.convert s d x)) Kq .it:=rfl
@[simp ↓]theorem T0(t:TypeId)(x:Operand):bn P env h n (.makeInterface t x) K=aW (aOp P h n (ev env) (.makeInterface t x)) (eK h n K) .it:=rfl
@[simp ↓]theorem T3(t:TypeId)(x:Operand):bj P env h n (.makeInterface t x) Kq=aW (aOp P h n (ev env) (.makeInterface t x)) Kq .it:=rfl
@[simp ↓]theorem T4(f:Fn)(a b:Array Operand):bn P env h n (.makeFunc f a b) K=aW (aOp P h n (ev env) (.makeFunc f a b)) (eK h n K) .it:=rfl
@[simp ↓]theorem T5(f:Fn)(a b:Array Operand):bj P env h n (.makeFunc f a b) Kq=aW (aOp P h n (ev env) (.makeFunc f a b)) Kq .it:=rfl
@[simp ↓]theorem T6(t:TypeId)(x y:Operand):bn P env h n (.makeSlice t x y) K=aW (aOp P h n (ev env) (.makeSlice t x y)) (eK h n K) .it:=rfl
@[simp ↓]theorem T7(t:TypeId)(x y:Operand):bj P env h n (.makeSlice t x y) Kq=aW (aOp P h n (ev env) (.makeSlice t x y)) Kq .it:=rfl
@[simp ↓]theorem T8(t:TypeId)(x:Operand)(l u m:Option Operand):bn P env h n (.slice t x l u m) K=aW (aOp P h n (ev env) (.slice t x l u m)) (eK h n K) .it:=rfl
@[simp ↓]theorem T9(t:TypeId)(x:Operand)(l u m:Option Operand):bj P env h n (.slice t x l u m) Kq=aW (aOp P h n (ev env) (.slice t x l u m)) Kq .it:=rfl
@[simp ↓]theorem Ua(t:TypeId)(x:Operand)(f:Nat):bn P env h n (.fieldAddr t x f) K=aW (aOp P h n (ev env) (.fieldAddr t x f)) (eK h n K) .it:=rfl
@[simp ↓]theorem Ub(t:TypeId)(x:Operand)(f:Nat):bj P env h n (.fieldAddr t x f) Kq=aW (aOp P h n (ev env) (.fieldAddr t x f)) Kq .it:=rfl
@[simp ↓]theorem Uc(t:TypeId)(x:Operand)(f:Nat):bn P env h n (.field t x f) K=aW (aOp P h n (ev env) (.field t x f)) (eK h n K) .it:=rfl
@[simp ↓]theorem Ud(t:TypeId)(x:Operand)(f:Nat):bj P env h n (.field t x f) Kq=aW (aOp P h n (ev env) (.field t x f)) Kq .it:=rfl
@[simp ↓]theorem Ue(t:TypeId)(x i:Operand):bn P env h n (.indexAddr t x i) K=aW (aOp P h n (ev env) (.indexAddr t x i)) (eK h n K) .it:=rfl
@[simp ↓]theorem Uf(t:TypeId)(x i:Operand):bj P env h n (.indexAddr t x i) Kq=aW (aOp P h n (ev env) (.indexAddr t x i)) Kq .it:=rfl
@[simp ↓]theorem Ug(t:TypeId)(x i:Operand):bn P env h n (.index t x i) K=aW (aOp P h n (ev env) (.index t x i)) (eK h n K) .it:=rfl
@[simp ↓]theorem Uh(t:TypeId)(x i:Operand):bj P env h n (.index t x i) Kq=aW (aOp P h n (ev env) (.index t x i)) Kq .it:=rfl
@[simp ↓]theorem Ui(x:Operand)(i:Nat):bn P env h n (.extract x i) K=aW (aOp P h n (ev env) (.extract x i)) (eK h n K) .it:=rfl
@[simp ↓]theorem Uj(x:Operand)(i:Nat):bj P env h n (.extract x i) Kq=aW (aOp P h n (ev env) (.extract x i)) Kq .it:=rfl
@[simp ↓]theorem ZV(a:Array Operand)(t:Array TypeId):bn P env h n (.call ⟨.builtin .len,a,t⟩) K=aW (aOp P h n (ev env) (.call ⟨.builtin .len,a,t⟩)) (eK h n K) .it:=rfl
@[simp ↓]theorem ZW(a:Array Operand)(t:Array TypeId):bj P env h n (.call ⟨.builtin .len,a,t⟩) Kq=aW (aOp P h n (ev env) (.call ⟨.builtin .len,a,t⟩)) Kq .it:=rfl
@[simp ↓]theorem ZX(a:Array Operand)(t:Array TypeId):bn P env h n (.call ⟨.builtin .max,a,t⟩) K=aW (aOp P h n (ev env) (.call ⟨.builtin .max,a,t⟩)) (eK h n K) .it:=rfl
@[simp ↓]theorem ZY(a:Array Operand)(t:Array TypeId):bj P env h n (.call ⟨.builtin .max,a,t⟩) Kq=aW (aOp P h n (ev env) (.call ⟨.builtin .max,a,t⟩)) Kq .it:=rfl
@[simp ↓]theorem ZZ(a:Array Operand)(t:Array TypeId):bn P env h n (.call ⟨.builtin .min,a,t⟩) K=aW (aOp P h n (ev env) (.call ⟨.builtin .min,a,t⟩)) (eK h n K) .it:=rfl
@[simp ↓]theorem Z0(a:Array Operand)(t:Array TypeId):bj P env h n (.call ⟨.builtin .min,a,t⟩) Kq=aW (aOp P h n (ev env) (.call ⟨.builtin .min,a,t⟩)) Kq .it:=rfl
@[simp ↓]theorem Uk(a:Array Operand)(t:Array TypeId):bj P env h n (.call ⟨.builtin .append,a,t⟩) Kq=aW (aOp P h n (ev env) (.call ⟨.builtin .append,a,t⟩)) Kq .it:=rfl
def cW(P:Program)(h:ae)(n:Nat)(f:Option (FuncId×List AV))(args:List AV)(K:AV->List (List AV)->Prop)(_:Mark K):Prop:=
 match f with
 |some (g,aF)=>qO P h n g (args++aF) K
 |none=>False
@[congr] theorem Ul{P:Program}{h h':ae}{n:Nat}{f f':Option (FuncId×List AV)}{args h5:List AV}{K:AV->List (List AV)->Prop}{mk:Mark K}(h0:h=h')(h1:f=f')(h2:args=h5):cW P h n f args K mk=cW P h' n f' h5 K mk:=by rw[h0,h1,h2]
@[simp ↓]theorem Um(f:Operand)(a:Array Operand)(t:Array TypeId):bn P env h n (.call ⟨.value f,a,t⟩) K=cW P h n (fp (ev env f)) (a.toList.map (ev env)) (eK h n K) .it:=by
 rfl
@[simp ↓]theorem Un(f:Operand)(a:Array Operand)(t:Array TypeId):bj P env h n (.call ⟨.value f,a,t⟩) Kq=cW P h n (fp (ev env f)) (a.toList.map (ev env)) Kq .it:=by
 rfl
def fW(P:Program)(n:Nat)(g:FuncId)(a:Option (List PV))(pure:Bool)(K:AV->List (List AV)->Prop)(_:Mark K):Prop:=
 match a with
 |some pvs=>CW P g pvs (λres fr=>(fr=true\/pure=true)/\K (.w (oD fr res) false res) []) (λE v=>K (v.sh n) (E.map (AV.sh.shL n))) .it
 |none=>False
@[congr] theorem Uo{P:Program}{n:Nat}{g:FuncId}{a a':Option (List PV)}{p p':Bool}{K:AV->List (List AV)->Prop}{mk:Mark K}(h0:a=a')(h1:p=p'):fW P n g a p K mk=fW P n g a' p' K mk:=by rw[h0,h1]
@[simp]theorem Up(g:FuncId)(aF args:List AV)(mk:Mark Kq):cW P h n (some (g,aF)) args Kq mk=fW P n g (jW h (args++aF)) (lX (args++aF)) Kq .it:=rfl
@[simp]theorem Uq(g:FuncId)(pvs:List PV)(p:Bool)(mk:Mark Kq):fW P n g (some pvs) p Kq mk=CW P g pvs (λres fr=>(fr=true\/p=true)/\Kq (.w (oD fr res) false res) []) (λE v=>Kq (v.sh n) (E.map (AV.sh.shL n))) .it:=rfl
end
theorem cw{P:Program}{g:FuncId}{args:List PV}{K:PV->Bool->Prop}{K2:List (List AV)->AV->Prop}{res:PV}{fr:Bool}{mk:Mark (K,K2)}(h:aB P g args res fr)(hk:K res fr):CW P g args K K2 mk:=.inl ⟨res,fr,h,hk⟩
theorem cwM{P:Program}{g:FuncId}{args:List PV}{K:PV->Bool->Prop}{K2:List (List AV)->AV->Prop}{E:List (List AV)}{v:AV}{mk:Mark (K,K2)}(h:jz P g args E v)(hk:K2 E v):CW P g args K K2 mk:=.inr ⟨E,v,h,hk⟩
section
omit [ak]
@[simp]theorem RB(n:Nat)(o f:Bool)(p:PV):AV.sh n (.w o f p)=.w o f p:=rfl
@[simp]theorem Ng(n id v off:Nat):AV.sh n (.ptr id v off)=.ptr (id+n) v off:=rfl
@[simp]theorem Nh(n id v sz off k:Nat):AV.sh n (.msl id v sz off k)=.msl (id+n) v sz off k:=rfl
@[simp]theorem Ni(n:Nat)(cs:List AV):AV.sh n (.agg cs)=.agg (AV.sh.shL n cs):=rfl
@[simp]theorem Nj(n:Nat)(cs:List AV):AV.sh n (.tup cs)=.tup (AV.sh.shL n cs):=rfl
@[simp]theorem Ur(n:Nat):AV.sh.shL n []=[]:=rfl
@[simp]theorem Us(n:Nat)(x:AV)(r:List AV):AV.sh.shL n (x::r)=x.sh n::AV.sh.shL n r:=rfl
end
@[simp ↓]theorem Ut(P:Program)(b:Code)(K:Exit->St->Prop)(s:St):qS fk P b K .normal s=aS fk P b s K:=rfl
@[simp ↓]theorem Uu(P:Program)(b:Code)(K:Exit->St->Prop)(s:St):qS fk P b K .ret s=K .ret s:=rfl
@[simp ↓]theorem Uv(P:Program)(b:Code)(K:Exit->St->Prop)(id:Nat)(s:St):qS fk P b K (.exit id) s=K (.exit id) s:=rfl
section
omit [ak]
@[simp ↓]theorem Uw(i:Nat)(K:Exit->St->Prop)(s:St):gS i K .normal s=K .normal s:=rfl
@[simp ↓]theorem Ux(i:Nat)(K:Exit->St->Prop)(s:St):gS i K .ret s=K .ret s:=rfl
@[simp ↓]theorem Uy(i id:Nat)(K:Exit->St->Prop)(s:St):gS i K (.exit id) s=if id=i then K .normal s else K (.exit id) s:=rfl
@[simp ↓]theorem Uz(P:Program)(rs:List ResultVar)(res:PV)(fr:Bool)(s:St):ry P rs res fr .normal s=nE P rs s res fr:=rfl
@[simp ↓]theorem UA(P:Program)(rs:List ResultVar)(res:PV)(fr:Bool)(s:St):ry P rs res fr .ret s=nE P rs s res fr:=rfl
end
theorem nx{fk:Fk}{α:Type}{J:α->Prop}{I:α->St}{μ:α->Nat}{x:α}{K:Exit->St->Prop}{s:St}(y:α)(h:J y)(hle:Lek fk s (I y))(hm:μ y<μ x:=by first|omega|(dsimp only;omega)|(simp;omega)):jX fk J I μ x K .normal s:=⟨y,h,hm,hle⟩
section
variable{α:Type}(J:α->Prop)(I:α->St)(μ:α->Nat)(x:α)(K:Exit->St->Prop)
theorem FF(y:α)(s:St)(h:J y)(hm:μ y<μ x)(hle:Lek fk s (I y)):jX fk J I μ x K .normal s:=⟨y,h,hm,hle⟩
@[simp ↓]theorem UB(s:St):jX fk J I μ x K .ret s=K .ret s:=rfl
@[simp ↓]theorem UC(id:Nat)(s:St):jX fk J I μ x K (.exit id) s=K (.exit id) s:=rfl
end
section
variable{β:Type}(id:Nat)(F:β->Prop)(fin:β->St)(R:St->Prop)
@[simp ↓]theorem UD(s:St):Bh fk id F fin R .ret s=R s:=rfl
@[congr] theorem UE{id:Nat}{F:β->Prop}{fin:β->St}{R:St->Prop}{e e':Exit}{s s':St}(h:e=e')(h2:s=s'):Bh fk id F fin R e s=Bh fk id F fin R e' s':=by rw[h,h2]
end
@[congr] theorem UF{P:Program}{b:Code}{K:Exit->St->Prop}{e e':Exit}{s s':St}(h:e=e')(h2:s=s'):qS fk P b K e s=qS fk P b K e' s':=by rw[h,h2]
omit [ak] in
@[congr] theorem UG{i:Nat}{K:Exit->St->Prop}{e e':Exit}{s s':St}(h:e=e')(h2:s=s'):gS i K e s=gS i K e' s':=by rw[h,h2]
@[congr] theorem UH{α:Type}{J:α->Prop}{I:α->St}{μ:α->Nat}{x:α}{K:Exit->St->Prop}{e e':Exit}{s s':St}(h:e=e')(h2:s=s'):jX fk J I μ x K e s=jX fk J I μ x K e' s':=by rw[h,h2]
omit [ak] in
@[simp]theorem UI(o f b:Bool)(X Y:Prop):ni (.w o f (.bool b)) X Y=((b=true->X)/\(b=false->Y)):=rfl
omit [ak] in
@[simp]theorem UJ(o f:Bool)(X Y:Prop):ni (.w o f .iI) X Y=(X/\Y):=rfl
def j7(v:AV)(X Y:Prop)(_:Mark (X,Y)):Prop:=ni v X Y
section
omit [ak]
@[congr] theorem UK{v v':AV}{X Y:Prop}{mk:Mark (X,Y)}(h:v=v'):j7 v X Y mk=j7 v' X Y mk:=by rw[h]
@[simp]theorem UL(o f:Bool)(X Y:Prop)(mk:Mark (X,Y)):j7 (.w o f (.bool true)) X Y mk=X:=by simp[j7,ni]
@[simp]theorem UM(o f:Bool)(X Y:Prop)(mk:Mark (X,Y)):j7 (.w o f (.bool false)) X Y mk=Y:=by simp[j7,ni]
theorem cK{o f b:Bool}{X Y:Prop}{mk:Mark (X,Y)}(hx:b=true->X)(hy:b=false->Y):j7 (.w o f (.bool b)) X Y mk:=⟨hx,hy⟩
theorem dm{o f b:Bool}{X Y:Prop}{mk:Mark (X,Y)}(hx:b=false->X)(hy:b=true->Y):j7 (.w o f (.bool (!b))) X Y mk:=⟨λh=>hx (by simpa using h),λh=>hy (by simpa using h)⟩
theorem bY{o f:Bool}{p:Prop}[Decidable p]{X Y:Prop}{mk:Mark (X,Y)}(hx:p->X)(hy:¬p->Y):j7 (.w o f (.bool (decide p))) X Y mk:=⟨λh=>hx (by simpa using h),λh=>hy (by simpa using h)⟩
theorem cD{o f:Bool}{p:Prop}[Decidable p]{X Y:Prop}{mk:Mark (X,Y)}(hx:¬p->X)(hy:p->Y):j7 (.w o f (.bool (!decide p))) X Y mk:=⟨λh=>hx (by simpa using h),λh=>hy (by simpa using h)⟩
theorem dp{o f:Bool}{X Y:Prop}{mk:Mark (X,Y)}(hx:X)(hy:Y):j7 (.w o f .iI) X Y mk:=⟨hx,hy⟩
end
theorem au{P:Program}{K:Exit->St->Prop}{st:St}{c:Operand}{x y:Code}(h:j7 (ev st.env c) (aS fk P x st K) (aS fk P y st K) .it):aS fk P (.cond c x y) st K:=JS h
omit [ak] in
@[congr] theorem UN{v v':AV}{X Y:Prop}(h:v=v'):ni v X Y=ni v' X Y:=by rw[h]
attribute [simp] A9 A8 Bb Bc aOp bin lW AV.ok AV.one AV.isAgg AV.cells setAt oA eqS eqL pH lov hiv frz jW wF lX isW qN fp gO gP dh fD oD pvs BZ B7 B8 iB nD iM oneOf nE dY rz rA pW AV.lt AV.lt.ltL tj
section
omit [ak]
@[simp]theorem UO:flat .undef=true:=rfl
@[simp]theorem UP:flat .iI=true:=rfl
@[simp]theorem UQ(b:Bool):flat (.bool b)=true:=rfl
@[simp]theorem UR(k:IntKind)(n:Int):flat (.int k n)=true:=rfl
@[simp]theorem US(s:ByteArray):flat (.str s)=true:=rfl
@[simp]theorem UT:flat .gl=true:=rfl
@[simp]theorem UU(n:Nat)(c:List PV):flat (.sl n c)=false:=rfl
@[simp]theorem UW(n:Nat)(c:List PV):flat (.ip c n)=false:=rfl
@[simp]theorem UX(c:List PV):flat (.agg c)=false:=rfl
@[simp]theorem UY(f:FuncId)(c:List PV):flat (.fn f c)=false:=rfl
@[simp]theorem UZ(z:List AV):im 0 z=[]:=rfl
@[simp]theorem U0(n:Nat)(z:AV):im n [z]=List.replicate n z:=by
 unfold im
 induction n with
 |zero=>rfl
 |succ n ih=>rw[Ck,List.flatten_cons,ih];rfl
@[simp]theorem U1(x:AV)(l:List AV):kZ (x::l) 0=x:=rfl
@[simp]theorem U2(x:AV)(l:List AV)(k:Nat):kZ (x::l) (k+1)=kZ l k:=rfl
@[simp]theorem U3(x:PV)(l:List PV):dL (x::l) 0=x:=rfl
@[simp]theorem U4(x:PV)(l:List PV)(k:Nat):dL (x::l) (k+1)=dL l k:=rfl
@[simp]theorem FG{α:Type}[Inhabited α](x:α)(l:List α):nth (x::l) 0=x:=rfl
@[simp]theorem Ay{α:Type}[Inhabited α](x:α)(l:List α)(k:Nat):nth (x::l) (k+1)=nth l k:=rfl
theorem FH(f:PV->AV)(l:List PV)(k:Nat)(h:k<l.length):kZ (l.map f) k=f (dL l k):=by
 simp[kZ,dL,da,gH,cG h]
theorem FI(s:ByteArray):s=ByteArray.empty↔s.size=0:=by
 simp
@[simp]theorem U5(s:ByteArray)(k:Nat)(h:k<s.size):dL (k9 s) k=.int .u8 (ti s k):=by
 have:k<s.data.toList.length:=by simpa using h
 simp[dL,k9,ti,da,gH,cG this]
theorem aN{n:Int}(h1:-9000000000000000000<=n)(h2:n<=9000000000000000000):inI .i64 n:=by
 simp only[inI,IntKind.min,IntKind.max,IntKind.signed,IntKind.bits]
 constructor<;>simp<;>omega
end
end Go.Fi
namespace Go.Fi
open Go
theorem sJ{α:Type}(f:α->List PV)(s:Nat)(hf:∀x,(f x).length=s):∀l:List α,(l.flatMap f).length=l.length*s
 |[]=>by simp
 |x::l=>by rw[mG,r5,hf,sJ f s hf l,gu,fL];omega
theorem vW{α:Type}[Inhabited α](f:α->List PV)(s:Nat)(hf:∀x,(f x).length=s):∀(l:List α)(k:Nat),k<l.length->((l.flatMap f).drop (k*s)).take s=f (nth l k)
 |[],k,h=>by simp at h
 |x::l,0,h=>by
  simp_all
 |x::l,k+1,h=>by
  simp only[mG,Ay]
  have e:(k+1)*s=s+k*s:=by rw[fL];omega
  have e2:(f x++l.flatMap f).drop s=l.flatMap f:=by
   rw[List.drop_append_of_le_length (by rw[hf];simp),Im (by rw[hf];simp),Ip]
  rw[e,<-List.drop_drop,e2];exact vW f s hf l k (by simpa using h)
theorem Nk(a b:List PV)(j:Nat)(h:j<a.length):dL (a++b) j=dL a j:=by
 simp[dL,da,rT h]
theorem Nl(a b:List PV)(j:Nat):dL (a++b) (a.length+j)=dL b j:=by
 unfold dL;rw[da,rU (by omega),da];simp
theorem pC{α:Type}[Inhabited α](f:α->List PV)(s:Nat)(hf:∀x,(f x).length=s):∀(l:List α)(k j:Nat),k<l.length->j<s->dL (l.flatMap f) (k*s+j)=dL (f (nth l k)) j
 |[],k,j,h,_=>by simp at h
 |x::l,0,j,h,hj=>by
  simp only[mG,Ih,cY,FG];exact Nk _ _ _ (by rw[hf];exact hj)
 |x::l,k+1,j,h,hj=>by
  simp only[mG,Ay]
  have e:(k+1)*s+j=(f x).length+(k*s+j):=by rw[hf,fL];omega
  rw[e,Nl];exact pC f s hf l k j (by simpa using h) hj
theorem sK{α:Type}[Inhabited α](f:α->PV)(l:List α)(k:Nat)(h:k<l.length):dL (l.map f) k=f (nth l k):=by
 simp[dL,nth,da,gH,cG h]
end Go.Fi
namespace Go.Fi
open Go Go.RowKit
variable[ak]
variable{fk:Fk}
section
variable{P:Program}{K K':Exit->St->Prop}{st st':St}
theorem aI{id:Nat}{x y:Code}(h:aS fk P (.seq x y) st (gS id K)):aS fk P (.block id (.seq x y)) st K:=fT h
theorem dq{id:Nat}{v:Operand}{x y:Code}(h:aS fk P (.cond v x y) st (gS id K)):aS fk P (.block id (.cond v x y)) st K:=fT h
theorem cT{id i:Nat}{ops:Array Oper}{b:Bool}(h:aS fk P (.region i ops b) st (gS id K)):aS fk P (.block id (.region i ops b)) st K:=fT h
theorem FJ{c:Code}(h:aS fk P c st K)(hk:∀e s,K e s->∃s',Lek fk s s'/\K' e s'):aS fk P c st K':=
 λB w0 a w m hs=>dK (h B w0 a w m hs) (λe a' w' ⟨st',m',h1,h2⟩=>by
  obtain⟨s',hle,hh⟩:=hk e st' h1;obtain⟨ha,h9⟩:=hle B w0 a' w' m' h2
  grind)
def pX(fk:Fk){β:Type}(F:β->Prop)(fin:β->St)(s:St):Prop:=∃y,F y/\Lek fk s (fin y)
theorem bN{β:Type}{F:β->Prop}{fin:β->St}{s:St}(y:β)(h:F y)(hle:Lek fk s (fin y)):pX fk F fin s:=⟨y,h,hle⟩
@[congr] theorem WB{β:Type}{F:β->Prop}{fin:β->St}{s s':St}(h:s=s'):pX fk F fin s=pX fk F fin s':=by rw[h]
def nH(fk:Fk){β:Type}(id:Nat)(F:β->Prop)(fin:β->St)(K:Exit->St->Prop):Exit->St->Prop
 |.exit i,s=>if i=id then pX fk F fin s else K (.exit i) s
 |.normal,_=>False
 |e,s=>K e s
@[simp]theorem WC{β:Type}(id i:Nat)(F:β->Prop)(fin:β->St)(s:St):nH fk id F fin K (.exit i) s=if i=id then pX fk F fin s else K (.exit i) s:=rfl
@[simp]theorem WG{β:Type}(id:Nat)(F:β->Prop)(fin:β->St)(s:St):nH fk id F fin K .ret s=K .ret s:=rfl
@[congr] theorem WH{β:Type}{id:Nat}{F:β->Prop}{fin:β->St}{e e':Exit}{s s':St}(h:e=e')(h2:s=s'):nH fk id F fin K e s=nH fk id F fin K e' s':=by rw[h,h2]
def fP(env:Env):List Nat->Env
 |[]=>[]
 |k::ks=>(k,get env k)::fP env ks
omit [ak] in
@[simp]theorem WI(env:Env):fP env []=[]:=rfl
omit [ak] in
@[simp]theorem WJ(env:Env)(k:Nat)(ks:List Nat):fP env (k::ks)=(k,get env k)::fP env ks:=rfl
theorem vX{c:Code}{id:Nat}{env:Env}{h:ae}{n nt:Nat}{α β:Type}(J:α->Prop)(ks:List Nat)(mods:α->Env)(hf:α->ae)(μ:α->Nat)(F:β->Prop)(fks:List Nat)(fmods:β->Env)(ff:β->ae)(x0:α)(hJ:J x0)(h0:rA env n (mods x0++fP env ks))(h1:pW h n (hf x0))(round:∀x,J x->aS fk P c ⟨mods x++fP env ks,hf x,n,nt⟩ (jX fk J (λx=>⟨mods x++fP env ks,hf x,n,nt⟩) μ x (nH fk id F (λy=>⟨fmods y++fP env fks,ff y,n,nt⟩) K)))(after:∀y,F y->K .normal ⟨fmods y++fP env fks,ff y,n,nt⟩):aS fk P (.block id (.loop c)) ⟨env,h,n,nt⟩ K:=by
 refine JU (λhk=>fT (FJ (yD J (λx=>⟨mods x++fP env ks,hf x,n,nt⟩) μ x0 hJ (aM h0 h1 hk) round) (λe s hk=>?_)))
 cases e<;>first
  |exact hk.elim
  |exact⟨s,Lek.refl s,hk⟩
  |(simp only[nH] at hk
    simp only[gS];split at hk
    .rename_i h8;obtain⟨y,hy,hle⟩:=hk
     grind
    .rename_i h8
     exact⟨s,Lek.refl s,by rw[ai h8];exact hk⟩)
def tM(fk:Fk){β:Type}(F:β->Prop)(fin:β->St)(K:Exit->St->Prop):Exit->St->Prop
 |.normal,s=>pX fk F fin s
 |e,s=>K e s
@[simp]theorem WL{β:Type}(F:β->Prop)(fin:β->St)(s:St):tM fk F fin K .normal s=pX fk F fin s:=rfl
@[simp]theorem WM{β:Type}(i:Nat)(F:β->Prop)(fin:β->St)(s:St):tM fk F fin K (.exit i) s=K (.exit i) s:=rfl
@[simp]theorem WN{β:Type}(F:β->Prop)(fin:β->St)(s:St):tM fk F fin K .ret s=K .ret s:=rfl
@[congr] theorem WO{β:Type}{F:β->Prop}{fin:β->St}{e e':Exit}{s s':St}(h:e=e')(h2:s=s'):tM fk F fin K e s=tM fk F fin K e' s':=by rw[h,h2]
end
omit [ak] in
@[simp]theorem Nm(h:ae)(o f:Bool):∀l:List PV,jW h (l.map (.w o f))=some l
 |[]=>rfl
 |p::r=>by simp[jW,frz,Nm h o f r]
omit [ak] in
@[simp]theorem No(o f:Bool):∀l:List PV,lX (l.map (.w o f))=true
 |[]=>rfl
 |p::r=>by simp[lX,wF,No o f r]
end Go.Fi
namespace Go.Fi
open Go Go.RowKit
open Go.Conc (G)
section
variable{P:Program}{b:Frame}{a:Act}{k:List Item}{cs:List Frame}{w:World}
theorem Of{c:Code}:stepG P true (G (b.atR a (.code (.scope c)::k)) cs) w=.go (G (b.atR a (.code c::.inScope c::k)) cs) w #[]:=by rfl
theorem Og{c:Code}:stepG P true (G (b.atR a (.inScope c::k)) cs) w=.go (G (b.atR a k) cs) w #[]:=by rfl
end
section
variable[EnvD]
variable{P:Program}{r:Option Nat}{Q:Exit->Act->World->Prop}{a:Act}{w:World}
theorem Oh{c:Code}(h:c.wpT r P Q a w):(Code.scope c).wpT r P Q a w:=by
 intro b k cs hr hk;refine .quiet _ _ (λ_=>Of) bG ((h b (.inScope c::k) cs hr hk).bind ?_)
 rintro fr cs' w' ⟨rfl,e,a',hq,he⟩
 cases e with
 |normal=>subst he;exact .quiet _ _ (λ_=>Og) bG (.now ⟨rfl,.normal,a',hq,rfl⟩)
 |exit id=>
  obtain⟨k1,h1,rfl⟩:=he;exact .now ⟨rfl,.exit id,a',hq,k1,h1.trans (by simp[exitTo]),rfl⟩
 |ret=>obtain⟨k1,rfl⟩:=he;exact .now ⟨rfl,.ret,a',hq,k1,rfl⟩
 |_=>exact he.elim
end
variable[ak]
variable{fk:Fk}{P:Program}{K:Exit->St->Prop}{st:St}
theorem Gm{c:Code}(h:aS fk P c st K):aS fk P (.scope c) st K:=λB w0 a w m hs=>Oh (h B w0 a w m hs)
theorem Gn{l:Nat}(h:K .normal st):aS fk P (.label l) st K:=λ_ _ _ _ m hs=>II ⟨st,m,h,hs⟩
end Go.Fi
