/- Lemmas. -/
import Derived.Test.YthpkmilhiganjaaGreatPLc
set_option linter.all false
set_option maxHeartbeats 32000000
set_option maxRecDepth 100000
namespace Go.Fi
open Go Go.RowKit
variable[av]
variable{fk:Fk}
@[congr] theorem SR{P:Program}{c:Code}{st st':St}{K:Exit->St->Prop}(h:st=st'):bm fk P c st K=bm fk P c st' K:=by rw[h]
@[congr] theorem SS{P:Program}{ops:Array Oper}{nt:Nat}{os:List Oper}{e e':Env}{h h':ak}{n n':Nat}{K:Env->ak->Nat->Prop}(h1:e=e')(h2:h=h')(h3:n=n'):bV P ops nt os e h n K=bV P ops nt os e' h' n' K:=by rw[h1,h2,h3]
@[congr] theorem SU{P:Program}{ops:Array Oper}{nt:Nat}{os:List Oper}{e e':Env}{h h':ak}{n n':Nat}{K:Env->ak->Nat->Prop}(h1:e=e')(h2:h=h')(h3:n=n'):fC P ops nt os e h n K=fC P ops nt os e' h' n' K:=by rw[h1,h2,h3]
@[congr] theorem SV{P:Program}{env env':Env}{h h':ak}{n n':Nat}{op:Op}{K:AV->ak->Nat->Prop}(h1:env=env')(h2:h=h')(h3:n=n'):bH P env h n op K=bH P env' h' n' op K:=by rw[h1,h2,h3]
@[congr] theorem SW{P:Program}{env env':Env}{h h':ak}{n n':Nat}{op:Op}{K:AV->List (List AV)->Prop}(h1:env=env')(h2:h=h')(h3:n=n'):bG P env h n op K=bG P env' h' n' op K:=by rw[h1,h2,h3]
@[congr] theorem SX{P:Program}{g:FuncId}{args h5:List PV}{K:PV->Bool->Prop}{K2:List (List AV)->AV->Prop}{mk:Mark (K,K2)}(h:args=h5):CW P g args K K2 mk=CW P g h5 K K2 mk:=by rw[h]
def aW(r:Option (Prop×AV×List (List AV)))(K:AV->List (List AV)->Prop)(_:Mark K):Prop:=
 match r with
 |some (c,v,E)=>c/\K v E
 |none=>False
section
omit [av]
@[congr] theorem SY{r r':Option (Prop×AV×List (List AV))}{K:AV->List (List AV)->Prop}{mk:Mark K}(h:r=r'):aW r K mk=aW r' K mk:=by rw[h]
@[simp]theorem SZ(c:Prop)(v:AV)(E:List (List AV))(K:AV->List (List AV)->Prop)(mk:Mark K):aW (some (c,v,E)) K mk=(c/\K v E):=rfl
@[simp]theorem S1(K:AV->List (List AV)->Prop)(mk:Mark K):aW none K mk=False:=rfl
end
section
variable{P:Program}{ops:Array Oper}{nt:Nat}{env:Env}{h:ak}{n:Nat}
@[simp ↓]theorem S3(K:Env->ak->Nat->Prop):bV P ops nt [] env h n K=K env h n:=rfl
@[simp ↓]theorem S4(K:Env->ak->Nat->Prop):fC P ops nt [] env h n K=K env h n:=rfl
section
omit [av]
@[simp]theorem S5(d:Nat):dOk nt (some d)=(d<nt):=rfl
@[simp]theorem S6:dOk nt none=True:=rfl
@[simp]theorem S7(d:Nat)(v:AV):put env (some d) v=(d,v)::env:=rfl
@[simp]theorem S8(v:AV):put env none v=env:=rfl
@[simp]theorem Ta:bu h n []=h:=rfl
@[simp]theorem Tb(c:List AV):bu h n [c]=(n,c)::h:=rfl
@[simp]theorem Tc(t:Nat):get [] t=.w false false .undef:=rfl
@[simp]theorem Td(k t:Nat)(v:AV):get ((k,v)::env) t=if k=t then v else get env t:=rfl
@[simp]theorem Te(k t:Nat)(v:List AV):bf ((k,v)::h) t=if k=t then some v else bf h t:=rfl
@[simp]theorem Tf(t:Nat):bf [] t=none:=rfl
@[simp]theorem Tg(k t:Nat)(v x:List AV):bP ((k,v)::h) t x=if k=t then (k,x)::h else (k,v)::bP h t x:=rfl
@[simp]theorem Ti(t:Nat):ev env (.tmp t)=get env t:=rfl
@[simp]theorem Tj(v:Value):ev env (.const v)=cst v:=rfl
@[simp]theorem Tk(f:FuncId):ev env (.func f)=.fn f []:=rfl
end
attribute [simp] cst mg
@[simp ↓]theorem Tl(dst:Option Tmp)(op:Op)(ty:TypeId)(pos:String)(after:Array Edge)(os:List Oper)(K:Env->ak->Nat->Prop):bV P ops nt (⟨dst,op,ty,pos,after,none⟩::os) env h n K=(dOk nt dst/\bH P env h n op λv h' n'=>bV P ops nt os (put env dst v) h' n' K):=by
 simp[bV,fB]
@[simp ↓]theorem Tm(dst:Option Tmp)(op:Op)(ty:TypeId)(pos:String)(after:Array Edge)(os:List Oper)(K:Env->ak->Nat->Prop):fC P ops nt (⟨dst,op,ty,pos,after,none⟩::os) env h n K=(dOk nt dst/\bG P env h n op λv E=>fC P ops nt os (put env dst v) (bu h n E) (n+E.length) K):=by
 simp[fC,fB]
def gW(g:Option Bool)(X Y:Prop):Prop:=
 match g with
 |some b=>(b=true->X)/\(b=false->Y)
 |none=>False
section
omit [av]
@[congr] theorem Tn{g g':Option Bool}{X Y:Prop}(h:g=g'):gW g X Y=gW g' X Y:=by rw[h]
@[simp]theorem Bc(X Y:Prop):gW (some true) X Y=X:=by simp[gW]
@[simp]theorem Be(X Y:Prop):gW (some false) X Y=Y:=by simp[gW]
end
def uA(v:AV)(want:Bool):Option Bool:=
 match v with
 |.w _ _ (.bool b)=>some (b==want)
 |.tup []=>some false
 |_=>none
omit [av] in
@[simp]theorem To(o f b want:Bool):uA (.w o f (.bool b)) want=some (b==want):=rfl
omit [av] in
@[simp]theorem Tp(want:Bool):uA (.tup []) want=some false:=rfl
def gOf(ops:Array Oper)(env:Env)(j:Nat)(want:Bool):Option Bool:=
 match dp ops j with
 |none=>some false
 |some t=>uA (get env t) want
omit [av] in
theorem Bf(dst:Option Tmp)(op:Op)(ty:TypeId)(pos:String)(after:Array Edge)(j:Nat)(want:Bool):fB ops env ⟨dst,op,ty,pos,after,some (j,want)⟩=gOf ops env j want:=by
 rfl
theorem NM(dst:Option Tmp)(op:Op)(ty:TypeId)(pos:String)(after:Array Edge)(j:Nat)(want:Bool)(os:List Oper)(K:Env->ak->Nat->Prop):bV P ops nt (⟨dst,op,ty,pos,after,some (j,want)⟩::os) env h n K=(dOk nt dst/\gW (gOf ops env j want) (bH P env h n op λv h' n'=>bV P ops nt os (put env dst v) h' n' K) (bV P ops nt os (put env dst (.tup [])) h n K)):=by
 conv=>lhs;unfold bV
 rw[Bf]
 cases gOf ops env j want<;>simp[gW]
theorem NN(dst:Option Tmp)(op:Op)(ty:TypeId)(pos:String)(after:Array Edge)(j:Nat)(want:Bool)(os:List Oper)(K:Env->ak->Nat->Prop):fC P ops nt (⟨dst,op,ty,pos,after,some (j,want)⟩::os) env h n K=(dOk nt dst/\gW (gOf ops env j want) (bG P env h n op λv E=>fC P ops nt os (put env dst v) (bu h n E) (n+E.length) K) (fC P ops nt os (put env dst (.tup [])) h n K)):=by
 conv=>lhs;unfold fC
 rw[Bf]
 cases gOf ops env j want<;>simp[gW]
def gM(g:Option Bool)(X Y:Prop)(_:Mark (X,Y)):Prop:=gW g X Y
omit [av] in
@[congr] theorem Tq{g g':Option Bool}{X Y:Prop}{mk:Mark (X,Y)}(h:g=g'):gM g X Y mk=gM g' X Y mk:=by rw[h]
def gE(g:Option Bool)(P:Program)(env:Env)(h:ak)(n:Nat)(op:Op)(K:AV->ak->Nat->Prop)(_:Mark K):Prop:=gW g (bH P env h n op K) (K (.tup []) h n)
def gQ(g:Option Bool)(P:Program)(env:Env)(h:ak)(n:Nat)(op:Op)(K:AV->List (List AV)->Prop)(_:Mark K):Prop:=gW g (bG P env h n op K) (K (.tup []) [])
@[congr] theorem Ts{g g':Option Bool}{P:Program}{env env':Env}{h h':ak}{n n':Nat}{op:Op}{K:AV->ak->Nat->Prop}{mk:Mark K}(e1:g=g')(e2:env=env')(e3:h=h')(e4:n=n'):gE g P env h n op K mk=gE g' P env' h' n' op K mk:=by rw[e1,e2,e3,e4]
@[congr] theorem Tt{g g':Option Bool}{P:Program}{env env':Env}{h h':ak}{n n':Nat}{op:Op}{K:AV->List (List AV)->Prop}{mk:Mark K}(e1:g=g')(e2:env=env')(e3:h=h')(e4:n=n'):gQ g P env h n op K mk=gQ g' P env' h' n' op K mk:=by rw[e1,e2,e3,e4]
section
variable{op:Op}{K:AV->ak->Nat->Prop}{mk:Mark K}{Kq:AV->List (List AV)->Prop}{mkq:Mark Kq}{b:Bool}{p:Prop}[Decidable p]
@[simp]theorem Tu:gE (some true) P env h n op K mk=bH P env h n op K:=by unfold gE;exact Bc _ _
@[simp]theorem Tx:gE (some false) P env h n op K mk=K (.tup []) h n:=by unfold gE;exact Be _ _
@[simp]theorem Ty:gQ (some true) P env h n op Kq mkq=bG P env h n op Kq:=by unfold gQ;exact Bc _ _
@[simp]theorem TA:gQ (some false) P env h n op Kq mkq=Kq (.tup []) []:=by unfold gQ;exact Be _ _
theorem wR(hx:b=true->bH P env h n op K)(hy:b=false->K (.tup []) h n):gE (some b) P env h n op K mk:=⟨hx,hy⟩
theorem wS(hx:b=false->bH P env h n op K)(hy:b=true->K (.tup []) h n):gE (some (!b)) P env h n op K mk:=⟨λh=>hx (by simpa using h),λh=>hy (by simpa using h)⟩
theorem NO(hx:p->bH P env h n op K)(hy:¬p->K (.tup []) h n):gE (some (decide p)) P env h n op K mk:=⟨λh=>hx (by simpa using h),λh=>hy (by simpa using h)⟩
theorem NQ(hx:¬p->bH P env h n op K)(hy:p->K (.tup []) h n):gE (some (!decide p)) P env h n op K mk:=⟨λh=>hx (by simpa using h),λh=>hy (by simpa using h)⟩
end
section
variable{dst:Option Tmp}{op:Op}{ty:TypeId}{pos:String}{after:Array Edge}{j:Nat}{want:Bool}{os:List Oper}
@[simp ↓]theorem TB{K:Env->ak->Nat->Prop}:bV P ops nt (⟨dst,op,ty,pos,after,some (j,want)⟩::os) env h n K=(dOk nt dst/\gE (gOf ops env j want) P env h n op (λv h' n'=>bV P ops nt os (put env dst v) h' n' K) .it):=NM ..
@[simp ↓]theorem TC{K:Env->ak->Nat->Prop}:fC P ops nt (⟨dst,op,ty,pos,after,some (j,want)⟩::os) env h n K=(dOk nt dst/\gQ (gOf ops env j want) P env h n op (λv E=>fC P ops nt os (put env dst v) (bu h n E) (n+E.length) K) .it):=NN ..
end
def mN:List Oper->Nat->Option Tmp
 |[],_=>none
 |o::_,0=>o.dst
 |_::r,k+1=>mN r k
omit [av] in
@[simp]theorem TD(o:Oper)(r:List Oper):mN (o::r) 0=o.dst:=by rw[mN]
omit [av] in
@[simp]theorem TE(o:Oper)(r:List Oper)(k:Nat):mN (o::r) (k+1)=mN r k:=by rw[mN]
def gV(env:Env)(d:Option Tmp)(want:Bool):Option Bool:=
 match d with
 |none=>some false
 |some t=>uA (get env t) want
section
omit [av]
@[simp]theorem TF(t:Tmp)(want:Bool):gV env (some t) want=uA (get env t) want:=rfl
theorem Gb:∀(l:List Oper)(j:Nat),mN l j=(l[j]?).bind (·.dst)
 |[],j=>by simp[mN]
 |o::r,0=>rfl
 |o::r,j+1=>by simp only[mN,uK];exact Gb r j
@[simp]theorem TG(l:List Oper)(j:Nat)(want:Bool):gOf l.toArray env j want=gV env (mN l j) want:=by
 unfold gOf dp gV;rw[xX,Gb]
 cases (l[j]?).bind (·.dst)<;>rfl
end
@[simp ↓]theorem TH(x:Operand)(K:AV->ak->Nat->Prop):bH P env h n (.move x) K=K (ev env x) h n:=by simp[bH,bG,aOp]
@[simp ↓]theorem TI(x:Operand)(K:AV->ak->Nat->Prop):bH P env h n (.assign x) K=K (ev env x) h n:=by simp[bH,bG,aOp]
@[simp ↓]theorem TJ(x:Operand)(K:AV->List (List AV)->Prop):bG P env h n (.move x) K=K (ev env x) []:=by simp[bG,aOp]
@[simp ↓]theorem TK(x:Operand)(K:AV->List (List AV)->Prop):bG P env h n (.assign x) K=K (ev env x) []:=by simp[bG,aOp]
end
def CE(h:ak)(ty:Option (Nat×Bool))(ad x:AV):Option (Prop×ak):=
 match ty,ad with
 |some (sz,_),.ptr id ver off=>
  match bf h id with
  |some cells=>some ((cells.length=ver/\x.ok=true/\x.cells.length=sz/\off+sz<=cells.length/\dj x.cells=true),bP h id (setAt cells off x.cells))
  |none=>none
 |_,_=>none
def CG(P:Program)(h:ak)(n:Nat)(t tx:TypeId)(s x:AV):Option (Prop×AV×ak×Nat):=
 match slE P t,slE P tx with
 |some (e,sz),some _=>
  match byE P e,dK P e,gP h sz x with
  |some by_,some z,some (k2,news,c)=>
   match s with
   |.msl id ver z' off k=>
    match bf h id with
    |some cells=>some ((c/\off=0/\cells.length=ver/\z'=sz/\z.length=sz/\0<sz/\k*sz<=ver/\k+k2<=1000000000/\by_<=100000/\dj news=true),
      .msl id (gR cells (k*sz) news).length sz 0 (k+k2),bP h id (gR cells (k*sz) news),n)
    |none=>none
   |.w own true (.sl k cells)=>
    bif own&&decide (k=0)&&cells.isEmpty then some ((c/\0<k2/\z.length=sz/\0<sz/\k2<=1000000000/\by_<=100000),.msl n news.length sz 0 k2,(n,news)::h,n+1)
    else match pvs news with
     |some q=>some ((c/\cells.length=k*sz/\z.length=sz/\0<sz/\k+k2<=1000000000/\by_<=100000),.w (fA q&&(own || cells.isEmpty)) false (.sl (k+k2) (cells++q)),h,n)
     |none=>none
   |_=>none
  |_,_,_=>none
 |_,_=>none
def CH(P:Program)(h:ak)(n:Nat)(args:List AV)(tys:List TypeId):Option (Prop×AV×ak×Nat):=
 match args,tys with
 |[s,x],[t,tx]=>CG P h n t tx s x
 |_,_=>none
def sM(r:Option (Prop×ak))(n:Nat)(K:AV->ak->Nat->Prop)(_:Mark K):Prop:=
 match r with
 |some (c,h')=>c/\K (.tup []) h' n
 |none=>False
def pM(r:Option (Prop×AV×ak×Nat))(K:AV->ak->Nat->Prop)(_:Mark K):Prop:=
 match r with
 |some (c,v,h',n')=>c/\K v h' n'
 |none=>False
section
omit [av]
@[congr] theorem TL{r r':Option (Prop×ak)}{n n':Nat}{K:AV->ak->Nat->Prop}{mk:Mark K}(h:r=r')(h2:n=n'):sM r n K mk=sM r' n' K mk:=by rw[h,h2]
@[congr] theorem TM{r r':Option (Prop×AV×ak×Nat)}{K:AV->ak->Nat->Prop}{mk:Mark K}(h:r=r'):pM r K mk=pM r' K mk:=by rw[h]
@[simp]theorem TO(c:Prop)(h':ak)(n:Nat)(K:AV->ak->Nat->Prop)(mk:Mark K):sM (some (c,h')) n K mk=(c/\K (.tup []) h' n):=rfl
@[simp]theorem TP(c:Prop)(v:AV)(h':ak)(n':Nat)(K:AV->ak->Nat->Prop)(mk:Mark K):pM (some (c,v,h',n')) K mk=(c/\K v h' n'):=rfl
end
@[simp ↓]theorem TR{P:Program}{env:Env}{h:ak}{n:Nat}(t:TypeId)(ad x:Operand)(K:AV->ak->Nat->Prop):bH P env h n (.store t ad x) K=sM (CE h (tyL P t) (ev env ad) (ev env x)) n K .it:=by
 show nK P env h n t ad x K=_;unfold nK CE
 cases tyL P t with
 |none=>cases ev env ad<;>rfl
 |some y=>
  obtain⟨sz,g⟩:=y
  cases ev env ad with
  |ptr id ver off=>dsimp only;cases bf h id<;>rfl
  |_=>rfl
@[simp ↓]theorem TT{P:Program}{env:Env}{h:ak}{n:Nat}(args:Array Operand)(tys:Array TypeId)(K:AV->ak->Nat->Prop):bH P env h n (.call ⟨.builtin .append,args,tys⟩) K=pM (CH P h n (args.toList.map (ev env)) tys.toList) K .it:=by
 show nJ P env h n args.toList tys.toList K=_;generalize args.toList=la;generalize tys.toList=lt;unfold nJ CH
 match la,lt with
 |[s,x],[t,tx]=>
  simp only[List.map];unfold CG
  cases slE P t with
  |none=>rfl
  |some y=>
   obtain⟨e,sz⟩:=y
   cases slE P tx with
   |none=>rfl
   |some y2=>
    dsimp only
    cases byE P e with
    |none=>rfl
    |some by_=>
     cases dK P e with
     |none=>rfl
     |some z=>
      cases gP h sz (ev env x) with
      |none=>rfl
      |some y3=>
       obtain⟨k2,news,c⟩:=y3;dsimp only
       cases ev env s with
       |msl id ver z' off k=>dsimp only;cases bf h id<;>rfl
       |w own f p=>
        cases f with
        |false=>rfl
        |true=>
         cases p with
         |sl k cells=>
          dsimp only
          cases (own&&decide (k=0)&&cells.isEmpty) with
          |true=>rfl
          |false=>simp only[cond_false];cases pvs news<;>rfl
         |_=>rfl
       |_=>rfl
 |[],_=>simp[pM]
 |[_],_=>simp[pM]
 |_::_::_::_,_=>simp[pM]
 |[_,_],[]=>simp[pM]
 |[_,_],[_]=>simp[pM]
 |[_,_],_::_::_::_=>simp[pM]
@[simp ↓]theorem TU{P:Program}{env:Env}{h:ak}{n:Nat}(args:Array Operand)(tys:Array TypeId)(K:AV->ak->Nat->Prop):bH P env h n (.call ⟨.builtin .copy,args,tys⟩) K=pM ((rM P h (args.toList.map (ev env)) tys.toList).map λy=>(y.1,y.2.1,y.2.2,n)) K .it:=by
 show nL P env h n args.toList tys.toList K=_;unfold nL
 cases rM P h (args.toList.map (ev env)) tys.toList with
 |none=>rfl
 |some y=>rfl
attribute [simp] rM o9 shr
def eK(h:ak)(n:Nat)(K:AV->ak->Nat->Prop):AV->List (List AV)->Prop:=λv E=>K v (bu h n E) (n+E.length)
omit [av] in
@[simp ↓]theorem TV(h:ak)(n:Nat)(K:AV->ak->Nat->Prop)(v:AV):eK h n K v []=K v h n:=by rfl
omit [av] in
@[simp ↓]theorem TW(h:ak)(n:Nat)(K:AV->ak->Nat->Prop)(v:AV)(c:List AV):eK h n K v [c]=K v ((n,c)::h) (n+1):=by rfl
section
variable{P:Program}{env:Env}{h:ak}{n:Nat}(K:AV->ak->Nat->Prop)(Kq:AV->List (List AV)->Prop)
def gdV(b:Bool)(v:AV):AV:=bif b then v else .tup []
omit [av] in
@[simp]theorem NR(v:AV):gdV true v=v:=rfl
omit [av] in
@[simp]theorem TX(v:AV):gdV false v=.tup []:=rfl
def pkW(c x y:AV)(K:AV->List (List AV)->Prop)(_:Mark K):Prop:=
 match c with
 |.w _ _ (.bool t)=>
  match x,y with
  |.w _ _ (.bool a),.w _ _ (.bool b)=>K (.w false false (.bool (bif t then a else b))) []
  |x,y=>K (bif t then x else y) []
 |_=>False
omit [av] in
@[congr] theorem TY{c c' x x' y y':AV}{K:AV->List (List AV)->Prop}{mk:Mark K}(h1:c=c')(h2:x=x')(h3:y=y'):pkW c x y K mk=pkW c' x' y' K mk:=by rw[h1,h2,h3]
section
variable{K:AV->List (List AV)->Prop}{mk:Mark K}
section
omit [av]
@[simp]theorem TZ(o f t o1 f1 a o2 f2 b:Bool):pkW (.w o f (.bool t)) (.w o1 f1 (.bool a)) (.w o2 f2 (.bool b)) K mk=K (.w false false (.bool (bif t then a else b))) []:=rfl
@[simp]theorem T0(o f c g a o2 f2 b:Bool)(hg:(!c)=g):pkW (.w o f (.bool c)) (.w false false (.bool a)) (gdV g (.w o2 f2 (.bool b))) K mk=K (.w false false (.bool (bif c then a else b))) []:=by
 subst hg;cases c<;>rfl
@[simp]theorem T3(o f t:Bool)(l:List AV)(y:AV):pkW (.w o f (.bool t)) (.tup l) y K mk=K (bif t then .tup l else y) []:=rfl
@[simp]theorem T4(o f t:Bool)(l:List AV)(x:AV):pkW (.w o f (.bool t)) x (.tup l) K mk=K (bif t then x else .tup l) []:=by
 unfold pkW;simp only
end
@[simp ↓]theorem NS(c x y:Operand):bG P env h n (.pick c x y) K=pkW (ev env c) (ev env x) (ev env y) K .it:=by
 simp only[bG,aOp,pkW];generalize ev env c=cv;generalize ev env x=xv;generalize ev env y=yv
 cases cv with
 |w o f v=>
  cases v with
  |bool t=>
   simp only;split
   .rename_i e1;split at e1<;>(injection e1 with e1;injection e1 with e1 e;injection e with e2 e3;subst e1;subst e2;subst e3;simp)
   .rename_i e1;split at e1<;>cases e1
  |_=>rfl
 |_=>rfl
@[simp ↓]theorem T5(c x y:Operand)(K:AV->ak->Nat->Prop):bH P env h n (.pick c x y) K=pkW (ev env c) (ev env x) (ev env y) (eK h n K) .it:=by
 rw[<-NS];rfl
end
@[simp ↓]theorem T6(t:TypeId):bH P env h n (.alloc t) K=aW (aOp P h n (ev env) (.alloc t)) (eK h n K) .it:=rfl
@[simp ↓]theorem T7(t:TypeId):bG P env h n (.alloc t) Kq=aW (aOp P h n (ev env) (.alloc t)) Kq .it:=rfl
@[simp ↓]theorem zas(t:TypeId)(x:Operand):bH P env h n (.box t x) K=aW (aOp P h n (ev env) (.box t x)) (eK h n K) .it:=rfl
@[simp ↓]theorem zat(t:TypeId)(x:Operand):bG P env h n (.box t x) Kq=aW (aOp P h n (ev env) (.box t x)) Kq .it:=rfl
@[simp ↓]theorem T8(t:TypeId)(ps:Array (Nat×Operand)):bH P env h n (.build t ps) K=aW (aOp P h n (ev env) (.build t ps)) (eK h n K) .it:=rfl
@[simp ↓]theorem T9(t:TypeId)(ps:Array (Nat×Operand)):bG P env h n (.build t ps) Kq=aW (aOp P h n (ev env) (.build t ps)) Kq .it:=rfl
@[simp ↓]theorem Ua(t:TypeId)(l:Nat)(ps:Array (Nat×Operand)):bH P env h n (.buildSlice t l ps) K=aW (aOp P h n (ev env) (.buildSlice t l ps)) (eK h n K) .it:=rfl
@[simp ↓]theorem Ub(t:TypeId)(l:Nat)(ps:Array (Nat×Operand)):bG P env h n (.buildSlice t l ps) Kq=aW (aOp P h n (ev env) (.buildSlice t l ps)) Kq .it:=rfl
@[simp ↓]theorem Uc(t:TypeId)(x:Operand):bH P env h n (.load t x) K=aW (aOp P h n (ev env) (.load t x)) (eK h n K) .it:=rfl
@[simp ↓]theorem Ud(t:TypeId)(x:Operand):bG P env h n (.load t x) Kq=aW (aOp P h n (ev env) (.load t x)) Kq .it:=rfl
@[simp ↓]theorem Ue(x:Operand):bH P env h n (.nilCheck x) K=aW (aOp P h n (ev env) (.nilCheck x)) (eK h n K) .it:=rfl
@[simp ↓]theorem Uf(x:Operand):bG P env h n (.nilCheck x) Kq=aW (aOp P h n (ev env) (.nilCheck x)) Kq .it:=rfl
@[simp ↓]theorem Ug(op:BinOp)(t:TypeId)(x y:Operand)(yt:TypeId):bH P env h n (.binOp op t x y yt) K=aW (aOp P h n (ev env) (.binOp op t x y yt)) (eK h n K) .it:=rfl
@[simp ↓]theorem Uh(op:BinOp)(t:TypeId)(x y:Operand)(yt:TypeId):bG P env h n (.binOp op t x y yt) Kq=aW (aOp P h n (ev env) (.binOp op t x y yt)) Kq .it:=rfl
@[simp ↓]theorem Ui(op:UnOp)(t:TypeId)(x:Operand):bH P env h n (.unOp op t x) K=aW (aOp P h n (ev env) (.unOp op t x)) (eK h n K) .it:=rfl
@[simp ↓]theorem Uj(op:UnOp)(t:TypeId)(x:Operand):bG P env h n (.unOp op t x) Kq=aW (aOp P h n (ev env) (.unOp op t x)) Kq .it:=rfl
def cvW(P:Program)(env:Env)(h:ak)(n:Nat)(src dst:TypeId)(x:Operand)(v:AV)(K:AV->ak->Nat->Prop)(_:Mark K):Prop:=
 match v with
 |.w _ _ (.str s)=>rP P src dst=true/\K (.w true false (.sl s.size (ll s))) h n
 |_=>bG P env h n (.convert src dst x) λv E=>K v (bu h n E) (n+E.length)
@[congr] theorem Uk{P:Program}{env:Env}{h:ak}{n:Nat}{src dst:TypeId}{x:Operand}{v v':AV}{K:AV->ak->Nat->Prop}{mk:Mark K}(e:v=v'):cvW P env h n src dst x v K mk=cvW P env h n src dst x v' K mk:=by rw[e]
@[simp]theorem Ul(src dst:TypeId)(x:Operand)(o f:Bool)(s:ByteArray)(K:AV->ak->Nat->Prop)(mk:Mark K):cvW P env h n src dst x (.w o f (.str s)) K mk=(rP P src dst=true/\K (.w true false (.sl s.size (ll s))) h n):=rfl
@[simp]theorem Um(src dst:TypeId)(x:Operand)(o f:Bool)(k:IntKind)(a:Int)(K:AV->ak->Nat->Prop)(mk:Mark K):cvW P env h n src dst x (.w o f (.int k a)) K mk=aW (aOp P h n (ev env) (.convert src dst x)) (eK h n K) .it:=rfl
omit [av] in
@[simp]theorem Un(s:ByteArray):(ll s).length=s.size:=by simp[ll]
@[simp ↓]theorem Uo(s d:TypeId)(x:Operand):bH P env h n (.convert s d x) K=cvW P env h n s d x (ev env x) K .it:=rfl
@[simp ↓]theorem Up(s d:TypeId)(x:Operand):bG P env h n (.convert s d x) Kq=aW (aOp P h n (ev env) (.convert s d x)) Kq .it:=rfl
@[simp ↓]theorem Uq(t:TypeId)(x:Operand):bH P env h n (.makeInterface t x) K=aW (aOp P h n (ev env) (.makeInterface t x)) (eK h n K) .it:=rfl
@[simp ↓]theorem Ur(t:TypeId)(x:Operand):bG P env h n (.makeInterface t x) Kq=aW (aOp P h n (ev env) (.makeInterface t x)) Kq .it:=rfl
@[simp ↓]theorem Us(f:Fn)(a b:Array Operand):bH P env h n (.makeFunc f a b) K=aW (aOp P h n (ev env) (.makeFunc f a b)) (eK h n K) .it:=rfl
@[simp ↓]theorem Ut(f:Fn)(a b:Array Operand):bG P env h n (.makeFunc f a b) Kq=aW (aOp P h n (ev env) (.makeFunc f a b)) Kq .it:=rfl
@[simp ↓]theorem Uu(t:TypeId)(x y:Operand):bH P env h n (.makeSlice t x y) K=aW (aOp P h n (ev env) (.makeSlice t x y)) (eK h n K) .it:=rfl
@[simp ↓]theorem Uv(t:TypeId)(x y:Operand):bG P env h n (.makeSlice t x y) Kq=aW (aOp P h n (ev env) (.makeSlice t x y)) Kq .it:=rfl
@[simp ↓]theorem Uw(t:TypeId)(x:Operand)(l u m:Option Operand):bH P env h n (.slice t x l u m) K=aW (aOp P h n (ev env) (.slice t x l u m)) (eK h n K) .it:=rfl
@[simp ↓]theorem Ux(t:TypeId)(x:Operand)(l u m:Option Operand):bG P env h n (.slice t x l u m) Kq=aW (aOp P h n (ev env) (.slice t x l u m)) Kq .it:=rfl
@[simp ↓]theorem Uy(t:TypeId)(x:Operand)(f:Nat):bH P env h n (.fieldAddr t x f) K=aW (aOp P h n (ev env) (.fieldAddr t x f)) (eK h n K) .it:=rfl
@[simp ↓]theorem Uz(t:TypeId)(x:Operand)(f:Nat):bG P env h n (.fieldAddr t x f) Kq=aW (aOp P h n (ev env) (.fieldAddr t x f)) Kq .it:=rfl
@[simp ↓]theorem UA(t:TypeId)(x:Operand)(f:Nat):bH P env h n (.field t x f) K=aW (aOp P h n (ev env) (.field t x f)) (eK h n K) .it:=rfl
@[simp ↓]theorem UB(t:TypeId)(x:Operand)(f:Nat):bG P env h n (.field t x f) Kq=aW (aOp P h n (ev env) (.field t x f)) Kq .it:=rfl
@[simp ↓]theorem UC(t:TypeId)(x i:Operand):bH P env h n (.indexAddr t x i) K=aW (aOp P h n (ev env) (.indexAddr t x i)) (eK h n K) .it:=rfl
@[simp ↓]theorem UD(t:TypeId)(x i:Operand):bG P env h n (.indexAddr t x i) Kq=aW (aOp P h n (ev env) (.indexAddr t x i)) Kq .it:=rfl
@[simp ↓]theorem UE(t:TypeId)(x i:Operand):bH P env h n (.index t x i) K=aW (aOp P h n (ev env) (.index t x i)) (eK h n K) .it:=rfl
@[simp ↓]theorem UF(t:TypeId)(x i:Operand):bG P env h n (.index t x i) Kq=aW (aOp P h n (ev env) (.index t x i)) Kq .it:=rfl
@[simp ↓]theorem UG(x:Operand)(i:Nat):bH P env h n (.extract x i) K=aW (aOp P h n (ev env) (.extract x i)) (eK h n K) .it:=rfl
@[simp ↓]theorem UH(x:Operand)(i:Nat):bG P env h n (.extract x i) Kq=aW (aOp P h n (ev env) (.extract x i)) Kq .it:=rfl
@[simp ↓]theorem zau(a:Array Operand)(t:Array TypeId):bH P env h n (.call ⟨.builtin .len,a,t⟩) K=aW (aOp P h n (ev env) (.call ⟨.builtin .len,a,t⟩)) (eK h n K) .it:=rfl
@[simp ↓]theorem zav(a:Array Operand)(t:Array TypeId):bG P env h n (.call ⟨.builtin .len,a,t⟩) Kq=aW (aOp P h n (ev env) (.call ⟨.builtin .len,a,t⟩)) Kq .it:=rfl
@[simp ↓]theorem zaw(a:Array Operand)(t:Array TypeId):bH P env h n (.call ⟨.builtin .max,a,t⟩) K=aW (aOp P h n (ev env) (.call ⟨.builtin .max,a,t⟩)) (eK h n K) .it:=rfl
@[simp ↓]theorem zax(a:Array Operand)(t:Array TypeId):bG P env h n (.call ⟨.builtin .max,a,t⟩) Kq=aW (aOp P h n (ev env) (.call ⟨.builtin .max,a,t⟩)) Kq .it:=rfl
@[simp ↓]theorem zay(a:Array Operand)(t:Array TypeId):bH P env h n (.call ⟨.builtin .min,a,t⟩) K=aW (aOp P h n (ev env) (.call ⟨.builtin .min,a,t⟩)) (eK h n K) .it:=rfl
@[simp ↓]theorem zaz(a:Array Operand)(t:Array TypeId):bG P env h n (.call ⟨.builtin .min,a,t⟩) Kq=aW (aOp P h n (ev env) (.call ⟨.builtin .min,a,t⟩)) Kq .it:=rfl
@[simp ↓]theorem UI(a:Array Operand)(t:Array TypeId):bG P env h n (.call ⟨.builtin .append,a,t⟩) Kq=aW (aOp P h n (ev env) (.call ⟨.builtin .append,a,t⟩)) Kq .it:=rfl
def cW(P:Program)(h:ak)(n:Nat)(f:Option (FuncId×List AV))(args:List AV)(K:AV->List (List AV)->Prop)(_:Mark K):Prop:=
 match f with
 |some (g,aH)=>rK P h n g (args++aH) K
 |none=>False
@[congr] theorem UJ{P:Program}{h h':ak}{n:Nat}{f f':Option (FuncId×List AV)}{args h5:List AV}{K:AV->List (List AV)->Prop}{mk:Mark K}(h0:h=h')(h1:f=f')(h2:args=h5):cW P h n f args K mk=cW P h' n f' h5 K mk:=by rw[h0,h1,h2]
@[simp ↓]theorem UK(f:Operand)(a:Array Operand)(t:Array TypeId):bH P env h n (.call ⟨.value f,a,t⟩) K=cW P h n (fo (ev env f)) (a.toList.map (ev env)) (eK h n K) .it:=by
 rfl
@[simp ↓]theorem UL(f:Operand)(a:Array Operand)(t:Array TypeId):bG P env h n (.call ⟨.value f,a,t⟩) Kq=cW P h n (fo (ev env f)) (a.toList.map (ev env)) Kq .it:=by
 rfl
def fW(P:Program)(n:Nat)(g:FuncId)(a:Option (List PV))(pure:Bool)(K:AV->List (List AV)->Prop)(_:Mark K):Prop:=
 match a with
 |some pvs=>CW P g pvs (λres fr=>(fr=true\/pure=true)/\K (.w (o8 fr res) false res) []) (λE v=>K (v.sh n) (E.map (AV.sh.shL n))) .it
 |none=>False
@[congr] theorem UM{P:Program}{n:Nat}{g:FuncId}{a a':Option (List PV)}{p p':Bool}{K:AV->List (List AV)->Prop}{mk:Mark K}(h0:a=a')(h1:p=p'):fW P n g a p K mk=fW P n g a' p' K mk:=by rw[h0,h1]
@[simp]theorem UN(g:FuncId)(aH args:List AV)(mk:Mark Kq):cW P h n (some (g,aH)) args Kq mk=fW P n g (j0 h (args++aH)) (mj (args++aH)) Kq .it:=rfl
@[simp]theorem UO(g:FuncId)(pvs:List PV)(p:Bool)(mk:Mark Kq):fW P n g (some pvs) p Kq mk=CW P g pvs (λres fr=>(fr=true\/p=true)/\Kq (.w (o8 fr res) false res) []) (λE v=>Kq (v.sh n) (E.map (AV.sh.shL n))) .it:=rfl
end
theorem cw{P:Program}{g:FuncId}{args:List PV}{K:PV->Bool->Prop}{K2:List (List AV)->AV->Prop}{res:PV}{fr:Bool}{mk:Mark (K,K2)}(h:aC P g args res fr)(hk:K res fr):CW P g args K K2 mk:=.inl ⟨res,fr,h,hk⟩
theorem cwM{P:Program}{g:FuncId}{args:List PV}{K:PV->Bool->Prop}{K2:List (List AV)->AV->Prop}{E:List (List AV)}{v:AV}{mk:Mark (K,K2)}(h:nI P g args E v)(hk:K2 E v):CW P g args K K2 mk:=.inr ⟨E,v,h,hk⟩
section
omit [av]
@[simp]theorem Sa(n:Nat)(o f:Bool)(p:PV):AV.sh n (.w o f p)=.w o f p:=rfl
@[simp]theorem NT(n id v off:Nat):AV.sh n (.ptr id v off)=.ptr (id+n) v off:=rfl
@[simp]theorem NU(n id v sz off k:Nat):AV.sh n (.msl id v sz off k)=.msl (id+n) v sz off k:=rfl
@[simp]theorem NV(n:Nat)(cs:List AV):AV.sh n (.agg cs)=.agg (AV.sh.shL n cs):=rfl
@[simp]theorem NW(n:Nat)(cs:List AV):AV.sh n (.tup cs)=.tup (AV.sh.shL n cs):=rfl
@[simp]theorem UP(n:Nat):AV.sh.shL n []=[]:=rfl
@[simp]theorem UQ(n:Nat)(x:AV)(r:List AV):AV.sh.shL n (x::r)=x.sh n::AV.sh.shL n r:=rfl
end
@[simp ↓]theorem UR(P:Program)(b:Code)(K:Exit->St->Prop)(s:St):rQ fk P b K .normal s=bm fk P b s K:=rfl
@[simp ↓]theorem US(P:Program)(b:Code)(K:Exit->St->Prop)(s:St):rQ fk P b K .ret s=K .ret s:=rfl
@[simp ↓]theorem UT(P:Program)(b:Code)(K:Exit->St->Prop)(id:Nat)(s:St):rQ fk P b K (.exit id) s=K (.exit id) s:=rfl
section
omit [av]
@[simp ↓]theorem UU(i:Nat)(K:Exit->St->Prop)(s:St):iB i K .normal s=K .normal s:=rfl
@[simp ↓]theorem UW(i:Nat)(K:Exit->St->Prop)(s:St):iB i K .ret s=K .ret s:=rfl
@[simp ↓]theorem UX(i id:Nat)(K:Exit->St->Prop)(s:St):iB i K (.exit id) s=if id=i then K .normal s else K (.exit id) s:=rfl
@[simp ↓]theorem UY(P:Program)(rs:List ResultVar)(res:PV)(fr:Bool)(s:St):sd P rs res fr .normal s=nY P rs s res fr:=rfl
@[simp ↓]theorem UZ(P:Program)(rs:List ResultVar)(res:PV)(fr:Bool)(s:St):sd P rs res fr .ret s=nY P rs s res fr:=rfl
end
theorem nx{fk:Fk}{α:Type}{J:α->Prop}{I:α->St}{μ:α->Nat}{x:α}{K:Exit->St->Prop}{s:St}(y:α)(h:J y)(hle:Lek fk s (I y))(hm:μ y<μ x:=by first|omega|(dsimp only;omega)|(simp;omega)):j3 fk J I μ x K .normal s:=⟨y,h,hm,hle⟩
section
variable{α:Type}(J:α->Prop)(I:α->St)(μ:α->Nat)(x:α)(K:Exit->St->Prop)
theorem wT(y:α)(s:St)(h:J y)(hm:μ y<μ x)(hle:Lek fk s (I y)):j3 fk J I μ x K .normal s:=⟨y,h,hm,hle⟩
@[simp ↓]theorem U0(s:St):j3 fk J I μ x K .ret s=K .ret s:=rfl
@[simp ↓]theorem U1(id:Nat)(s:St):j3 fk J I μ x K (.exit id) s=K (.exit id) s:=rfl
end
section
variable{β:Type}(id:Nat)(F:β->Prop)(fin:β->St)(R:St->Prop)
@[simp ↓]theorem U2(s:St):BR fk id F fin R .ret s=R s:=rfl
@[congr] theorem U3{id:Nat}{F:β->Prop}{fin:β->St}{R:St->Prop}{e e':Exit}{s s':St}(h:e=e')(h2:s=s'):BR fk id F fin R e s=BR fk id F fin R e' s':=by rw[h,h2]
end
@[congr] theorem U4{P:Program}{b:Code}{K:Exit->St->Prop}{e e':Exit}{s s':St}(h:e=e')(h2:s=s'):rQ fk P b K e s=rQ fk P b K e' s':=by rw[h,h2]
omit [av] in
@[congr] theorem U5{i:Nat}{K:Exit->St->Prop}{e e':Exit}{s s':St}(h:e=e')(h2:s=s'):iB i K e s=iB i K e' s':=by rw[h,h2]
@[congr] theorem U6{α:Type}{J:α->Prop}{I:α->St}{μ:α->Nat}{x:α}{K:Exit->St->Prop}{e e':Exit}{s s':St}(h:e=e')(h2:s=s'):j3 fk J I μ x K e s=j3 fk J I μ x K e' s':=by rw[h,h2]
omit [av] in
@[simp]theorem U7(o f b:Bool)(X Y:Prop):nN (.w o f (.bool b)) X Y=((b=true->X)/\(b=false->Y)):=rfl
omit [av] in
@[simp]theorem U8(o f:Bool)(X Y:Prop):nN (.w o f .ja) X Y=(X/\Y):=rfl
def mP(v:AV)(X Y:Prop)(_:Mark (X,Y)):Prop:=nN v X Y
section
omit [av]
@[congr] theorem U9{v v':AV}{X Y:Prop}{mk:Mark (X,Y)}(h:v=v'):mP v X Y mk=mP v' X Y mk:=by rw[h]
@[simp]theorem Va(o f:Bool)(X Y:Prop)(mk:Mark (X,Y)):mP (.w o f (.bool true)) X Y mk=X:=by simp[mP,nN]
@[simp]theorem Vb(o f:Bool)(X Y:Prop)(mk:Mark (X,Y)):mP (.w o f (.bool false)) X Y mk=Y:=by simp[mP,nN]
theorem qu{o f b:Bool}{X Y:Prop}{mk:Mark (X,Y)}(hx:b=true->X)(hy:b=false->Y):mP (.w o f (.bool b)) X Y mk:=⟨hx,hy⟩
theorem fz{o f:Bool}{p:Prop}[Decidable p]{X Y:Prop}{mk:Mark (X,Y)}(hx:p->X)(hy:¬p->Y):mP (.w o f (.bool (decide p))) X Y mk:=⟨λh=>hx (by simpa using h),λh=>hy (by simpa using h)⟩
theorem kZ{o f:Bool}{p:Prop}[Decidable p]{X Y:Prop}{mk:Mark (X,Y)}(hx:¬p->X)(hy:p->Y):mP (.w o f (.bool (!decide p))) X Y mk:=⟨λh=>hx (by simpa using h),λh=>hy (by simpa using h)⟩
end
theorem al{P:Program}{K:Exit->St->Prop}{st:St}{c:Operand}{x y:Code}(h:mP (ev st.env c) (bm fk P x st K) (bm fk P y st K) .it):bm fk P (.cond c x y) st K:=Kw h
omit [av] in
@[congr] theorem Vd{v v':AV}{X Y:Prop}(h:v=v'):nN v X Y=nN v' X Y:=by rw[h]
attribute [simp] BI BH BK BL aOp bin mh AV.ok AV.one AV.isAgg AV.cells setAt oZ eqS eqL qA lov hiv frz j0 xq mj isW rJ fo gP gR dj fA o8 pvs CE CG CH iF gz eX oneOf nY dQ se si qK AV.lt AV.lt.ltL ui
section
omit [av]
@[simp]theorem Ve:flat .undef=true:=rfl
@[simp]theorem Vf:flat .ja=true:=rfl
@[simp]theorem Vg(b:Bool):flat (.bool b)=true:=rfl
@[simp]theorem Vh(k:IntKind)(n:Int):flat (.int k n)=true:=rfl
@[simp]theorem Vi(s:ByteArray):flat (.str s)=true:=rfl
@[simp]theorem Vj:flat .fQ=true:=rfl
@[simp]theorem Vk(n:Nat)(c:List PV):flat (.sl n c)=false:=rfl
@[simp]theorem Vl(n:Nat)(c:List PV):flat (.ip c n)=false:=rfl
@[simp]theorem Vm(c:List PV):flat (.agg c)=false:=rfl
@[simp]theorem Vn(f:FuncId)(c:List PV):flat (.fn f c)=false:=rfl
@[simp]theorem Vo(z:List AV):iu 0 z=[]:=rfl
@[simp]theorem Vp(n:Nat)(z:AV):iu n [z]=List.replicate n z:=by
 unfold iu
 induction n with
 |zero=>rfl
 |succ n ih=>rw[CY,List.flatten_cons,ih];rfl
@[simp]theorem Vq(x:AV)(l:List AV):lh (x::l) 0=x:=rfl
@[simp]theorem Vr(x:AV)(l:List AV)(k:Nat):lh (x::l) (k+1)=lh l k:=rfl
@[simp]theorem Vs(x:PV)(l:List PV):dA (x::l) 0=x:=rfl
@[simp]theorem Vt(x:PV)(l:List PV)(k:Nat):dA (x::l) (k+1)=dA l k:=rfl
@[simp]theorem Gc{α:Type}[Inhabited α](x:α)(l:List α):nth (x::l) 0=x:=rfl
@[simp]theorem Bg{α:Type}[Inhabited α](x:α)(l:List α)(k:Nat):nth (x::l) (k+1)=nth l k:=rfl
theorem Ge(f:PV->AV)(l:List PV)(k:Nat)(h:k<l.length):lh (l.map f) k=f (dA l k):=by
 simp[lh,dA,bS,gD,da h]
theorem Gf(s:ByteArray):s=ByteArray.empty↔s.size=0:=by
 simp
@[simp]theorem Vu(s:ByteArray)(k:Nat)(h:k<s.size):dA (ll s) k=.int .u8 (uh s k):=by
 have:k<s.data.toList.length:=by simpa using h
 simp[dA,ll,uh,bS,gD,da this]
theorem aG{n:Int}(h1:-9000000000000000000<=n)(h2:n<=9000000000000000000):inI .i64 n:=by
 simp only[inI,IntKind.min,IntKind.max,IntKind.signed,IntKind.bits]
 constructor<;>simp<;>omega
end
end Go.Fi
namespace Go.Fi
open Go
theorem tN{α:Type}(f:α->List PV)(s:Nat)(hf:∀x,(f x).length=s):∀l:List α,(l.flatMap f).length=l.length*s
 |[]=>by simp
 |x::l=>by rw[il,jO,hf,tN f s hf l,eI,fe];omega
theorem wU{α:Type}[Inhabited α](f:α->List PV)(s:Nat)(hf:∀x,(f x).length=s):∀(l:List α)(k:Nat),k<l.length->((l.flatMap f).drop (k*s)).take s=f (nth l k)
 |[],k,h=>by simp at h
 |x::l,0,h=>by
  simp_all
 |x::l,k+1,h=>by
  simp only[il,Bg]
  have e:(k+1)*s=s+k*s:=by rw[fe];omega
  have e2:(f x++l.flatMap f).drop s=l.flatMap f:=by
   rw[SH (by rw[hf];simp),Db (by rw[hf];simp),I0]
  rw[e,<-List.drop_drop,e2];exact wU f s hf l k (by simpa using h)
theorem NX(a b:List PV)(j:Nat)(h:j<a.length):dA (a++b) j=dA a j:=by
 simp[dA,bS,om h]
theorem NY(a b:List PV)(j:Nat):dA (a++b) (a.length+j)=dA b j:=by
 unfold dA;rw[bS,sL (by omega),bS];simp
theorem lZ{α:Type}[Inhabited α](f:α->List PV)(s:Nat)(hf:∀x,(f x).length=s):∀(l:List α)(k j:Nat),k<l.length->j<s->dA (l.flatMap f) (k*s+j)=dA (f (nth l k)) j
 |[],k,j,h,_=>by simp at h
 |x::l,0,j,h,hj=>by
  simp only[il,IT,cY,Gc];exact NX _ _ _ (by rw[hf];exact hj)
 |x::l,k+1,j,h,hj=>by
  simp only[il,Bg]
  have e:(k+1)*s+j=(f x).length+(k*s+j):=by rw[hf,fe];omega
  rw[e,NY];exact lZ f s hf l k j (by simpa using h) hj
theorem tO{α:Type}[Inhabited α](f:α->PV)(l:List α)(k:Nat)(h:k<l.length):dA (l.map f) k=f (nth l k):=by
 simp[dA,nth,bS,gD,da h]
end Go.Fi
namespace Go.Fi
open Go Go.RowKit
variable[av]
variable{fk:Fk}
section
variable{P:Program}{K K':Exit->St->Prop}{st st':St}
theorem aF{id:Nat}{x y:Code}(h:bm fk P (.seq x y) st (iB id K)):bm fk P (.block id (.seq x y)) st K:=fY h
theorem iV{id i:Nat}{ops:Array Oper}{b:Bool}(h:bm fk P (.region i ops b) st (iB id K)):bm fk P (.block id (.region i ops b)) st K:=fY h
theorem Gg{c:Code}(h:bm fk P c st K)(hk:∀e s,K e s->∃s',Lek fk s s'/\K' e s'):bm fk P c st K':=
 λB w0 a w m hs=>dH (h B w0 a w m hs) (λe a' w' ⟨st',m',h1,h2⟩=>by
  obtain⟨s',hle,hh⟩:=hk e st' h1;obtain⟨ha,h9⟩:=hle B w0 a' w' m' h2
  grind)
def qL(fk:Fk){β:Type}(F:β->Prop)(fin:β->St)(s:St):Prop:=∃y,F y/\Lek fk s (fin y)
theorem aZ{β:Type}{F:β->Prop}{fin:β->St}{s:St}(y:β)(h:F y)(hle:Lek fk s (fin y)):qL fk F fin s:=⟨y,h,hle⟩
@[congr] theorem Xc{β:Type}{F:β->Prop}{fin:β->St}{s s':St}(h:s=s'):qL fk F fin s=qL fk F fin s':=by rw[h]
def nZ(fk:Fk){β:Type}(id:Nat)(F:β->Prop)(fin:β->St)(K:Exit->St->Prop):Exit->St->Prop
 |.exit i,s=>if i=id then qL fk F fin s else K (.exit i) s
 |.normal,_=>False
 |e,s=>K e s
@[simp]theorem Xd{β:Type}(id i:Nat)(F:β->Prop)(fin:β->St)(s:St):nZ fk id F fin K (.exit i) s=if i=id then qL fk F fin s else K (.exit i) s:=rfl
@[simp]theorem Xe{β:Type}(id:Nat)(F:β->Prop)(fin:β->St)(s:St):nZ fk id F fin K .ret s=K .ret s:=rfl
@[congr] theorem Xg{β:Type}{id:Nat}{F:β->Prop}{fin:β->St}{e e':Exit}{s s':St}(h:e=e')(h2:s=s'):nZ fk id F fin K e s=nZ fk id F fin K e' s':=by rw[h,h2]
def fN(env:Env):List Nat->Env
 |[]=>[]
 |k::ks=>(k,get env k)::fN env ks
omit [av] in
@[simp]theorem Xh(env:Env):fN env []=[]:=rfl
omit [av] in
@[simp]theorem Xi(env:Env)(k:Nat)(ks:List Nat):fN env (k::ks)=(k,get env k)::fN env ks:=rfl
theorem wV{c:Code}{id:Nat}{env:Env}{h:ak}{n nt:Nat}{α β:Type}(J:α->Prop)(ks:List Nat)(mods:α->Env)(hf:α->ak)(μ:α->Nat)(F:β->Prop)(fks:List Nat)(fmods:β->Env)(ff:β->ak)(x0:α)(hJ:J x0)(h0:si env n (mods x0++fN env ks))(h1:qK h n (hf x0))(round:∀x,J x->bm fk P c ⟨mods x++fN env ks,hf x,n,nt⟩ (j3 fk J (λx=>⟨mods x++fN env ks,hf x,n,nt⟩) μ x (nZ fk id F (λy=>⟨fmods y++fN env fks,ff y,n,nt⟩) K)))(after:∀y,F y->K .normal ⟨fmods y++fN env fks,ff y,n,nt⟩):bm fk P (.block id (.loop c)) ⟨env,h,n,nt⟩ K:=by
 refine Kx (λhk=>fY (Gg (zo J (λx=>⟨mods x++fN env ks,hf x,n,nt⟩) μ x0 hJ (aD h0 h1 hk) round) (λe s hk=>?_)))
 cases e<;>first
  |exact hk.elim
  |exact⟨s,Lek.refl s,hk⟩
  |(simp only[nZ] at hk
    simp only[iB];split at hk
    .rename_i h8;obtain⟨y,hy,hle⟩:=hk
     grind
    .rename_i h8
     exact⟨s,Lek.refl s,by rw[ar h8];exact hk⟩)
def uB(fk:Fk){β:Type}(F:β->Prop)(fin:β->St)(K:Exit->St->Prop):Exit->St->Prop
 |.normal,s=>qL fk F fin s
 |e,s=>K e s
@[simp]theorem Xj{β:Type}(F:β->Prop)(fin:β->St)(s:St):uB fk F fin K .normal s=qL fk F fin s:=rfl
@[simp]theorem Xk{β:Type}(i:Nat)(F:β->Prop)(fin:β->St)(s:St):uB fk F fin K (.exit i) s=K (.exit i) s:=rfl
@[simp]theorem Xl{β:Type}(F:β->Prop)(fin:β->St)(s:St):uB fk F fin K .ret s=K .ret s:=rfl
@[congr] theorem Xm{β:Type}{F:β->Prop}{fin:β->St}{e e':Exit}{s s':St}(h:e=e')(h2:s=s'):uB fk F fin K e s=uB fk F fin K e' s':=by rw[h,h2]
end
omit [av] in
@[simp]theorem NZ(h:ak)(o f:Bool):∀l:List PV,j0 h (l.map (.w o f))=some l
 |[]=>rfl
 |p::r=>by simp[j0,frz,NZ h o f r]
omit [av] in
@[simp]theorem N3(o f:Bool):∀l:List PV,mj (l.map (.w o f))=true
 |[]=>rfl
 |p::r=>by simp[mj,xq,N3 o f r]
end Go.Fi
namespace Go.Fi
open Go Go.RowKit
open Go.Conc (G)
section
variable{P:Program}{b:Frame}{a:Act}{k:List Item}{cs:List Frame}{w:World}
theorem OU{c:Code}:stepG P true (G (b.atR a (.code (.scope c)::k)) cs) w=.go (G (b.atR a (.code c::.inScope c::k)) cs) w #[]:=by rfl
theorem OV{c:Code}:stepG P true (G (b.atR a (.inScope c::k)) cs) w=.go (G (b.atR a k) cs) w #[]:=by rfl
end
section
variable[EnvD]
variable{P:Program}{r:Option Nat}{Q:Exit->Act->World->Prop}{a:Act}{w:World}
theorem OX{c:Code}(h:c.wpT r P Q a w):(Code.scope c).wpT r P Q a w:=by
 intro b k cs hr hk;refine .quiet _ _ (λ_=>OU) bY ((h b (.inScope c::k) cs hr hk).bind ?_)
 rintro fr cs' w' ⟨rfl,e,a',hq,he⟩
 cases e with
 |normal=>subst he;exact .quiet _ _ (λ_=>OV) bY (.now ⟨rfl,.normal,a',hq,rfl⟩)
 |exit id=>
  obtain⟨k1,h1,rfl⟩:=he;exact .now ⟨rfl,.exit id,a',hq,k1,h1.trans (by simp[exitTo]),rfl⟩
 |ret=>obtain⟨k1,rfl⟩:=he;exact .now ⟨rfl,.ret,a',hq,k1,rfl⟩
 |_=>exact he.elim
end
variable[av]
variable{fk:Fk}{P:Program}{K:Exit->St->Prop}{st:St}
theorem GZ{c:Code}(h:bm fk P c st K):bm fk P (.scope c) st K:=λB w0 a w m hs=>OX (h B w0 a w m hs)
theorem G0{l:Nat}(h:K .normal st):bm fk P (.label l) st K:=λ_ _ _ _ m hs=>Jl ⟨st,m,h,hs⟩
end Go.Fi
