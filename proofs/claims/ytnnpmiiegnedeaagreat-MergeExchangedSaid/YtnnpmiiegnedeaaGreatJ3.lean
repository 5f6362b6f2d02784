/- Joined texts, part 3: lemmas for the statement. No condition. -/
import Derived.Test.YtnnpmiiegnedeaaGreatJ2
import Derived.Test.YtnnpmiiegnedeaaGreatProg
import Derived.KernelRfl
import Derived.Lib.Bytealg
set_option maxHeartbeats 4000000
set_option linter.unusedSimpArgs false
set_option linter.unusedVariables false
open Nat (reduceEqDiff reduceLT reduceLeDiff reduceMul reduceAdd reduceSub)
open Go.IntKind (i64)
open Go.Proofs.Tryz
open Go.Proofs.Tryz renaming prog → pw
namespace Go.cv
open Go.RowKit
variable{P:Program}{N:Nat}{ai:List Nat}{ops:Array Oper}{K:Env->az->Prop}{an:Env}{H:az}
def Bm(P:Program)(o:Oper)(W:Env->az->Prop)(an:Env)(H:az):Prop:=∃x,zx P o (ev an) H x/\W (cW an o.dst (.p x)) H
def Fc(P:Program)(ai:List Nat)(ops:Array Oper)(o:Oper)(W:Env->az->Prop)(an:Env)(H:az):Prop:=∃x,zx P o (ev an) (pW ai ops H) x/\W (cW an o.dst (.p x)) H
def BZ(P:Program)(ai:List Nat)(ops:Array Oper)(o:Oper)(W:Env->az->Prop)(an:Env)(H:az):Prop:=∃v a,BW P ai ops o (ev an) H v a/\W (cW an o.dst v) a
def Bn(ai:List Nat)(o:Oper)(an:Env):Prop:=match o.op with
 | .store _ (.tmp d) _=>∃off,an d = .ptr d off
 |_=>Ap ai o an
def s8:oU->Bool
 | .s=>true
 |_=>false
def AP(ai:List Nat)(ops:Array Oper)(l:List (Oper×oU)):Bool:=l.all λx=>!qy ai ops x.1||s8 x.2
theorem Fe{o:Oper}{an:Env}(h:qy ai ops o=true->Bn ai o an):r5 ai ops o an:=by
 obtain⟨d,c,t,pos,af,g⟩:=o;refine⟨?_,λf=>?_⟩
 ·cases c<;>try trivial
  case store e a x =>
   cases a<;>try trivial
   rename_i k;intro j;have b:qy ai ops ⟨d,.store e (.tmp k) x,t,pos,af,g⟩=true:=by unfold qy;simp only[j,Bool.true_or]
   exact h b
 ·have b:qy ai ops ⟨d,c,t,pos,af,g⟩=true:=by unfold qy;rw[f,Bool.or_true]
  have i:=h b;cases c<;>first|exact i|skip
  case store e a x=>simp[zY,appArg] at f
def AQ(ai:List Nat)(o:Oper):Bool:=match o.dst with
 |some d=>!ai.contains d
 |none=>true
def gD(P:Program)(N:Nat)(ai:List Nat)(ops:Array Oper):List (Oper×oU)->(Env->az->Prop)->Env->az->Prop
 | [],K,an,H=>K an H
 |(o,c) :: rest,K,an,H=>wW N o.dst/\match nC ops o an with
  |some true=>(match c with
   | .p=>nH o=true/\AQ ai o=true/\(match gi P o (ev an) cu with
    |some (pre,v,_)=>pre/\gD P N ai ops rest K (cW an o.dst v) H
    |none=>False)
   | .q=>bQ ai o=true/\(match gi P o (ev an) H with
    |some (pre,v,_)=>pre/\gD P N ai ops rest K (cW an o.dst v) H
    |none=>Bm P o (gD P N ai ops rest K) an H)
   | .b=>bQ ai o=true/\(match gi P o (ev an) (tJ H) with
    |some (pre,v,_)=>pre/\gD P N ai ops rest K (cW an o.dst v) H
    |none=>False)
   | .o=>bQ ai o=true/\(match gi P o (ev an) (pW ai ops H) with
    |some (pre,v,_)=>pre/\gD P N ai ops rest K (cW an o.dst v) H
    |none=>Fc P ai ops o (gD P N ai ops rest K) an H)
   | .w=>(match gC P ai o (ev an) H with
    |some (pre,v,a)=>pre/\gD P N ai ops rest K (cW an o.dst v) a
    |none=>False)
   | .s=>Bn ai o an/\(match gC P ai o (ev an) H with
    |some (pre,v,a)=>pre/\gD P N ai ops rest K (cW an o.dst v) a
    |none=>False)
   | .f=>bQ ai o=true/\BZ P ai ops o (gD P N ai ops rest K) an H
   | .t=>AN P ai o (gD P N ai ops rest K) an H)
  |some false=>gD P N ai ops rest K (cW an o.dst (.dY [])) H
  |none=>False
theorem jm:∀ (l:List (Oper×oU)) (an:Env) (H:az),AP ai ops l=true->gD P N ai ops l K an H->BX P N ai ops l K an H
 | [],an,H,_,h=>h
 |(o,c) :: rest,an,H,n,h=>by
  obtain⟨z,h⟩:=h;refine⟨z,?_⟩;have j:AP ai ops rest=true:=by unfold AP at n ⊢;rw[List.all_cons,Bool.and_eq_true] at n;exact n.2
  have m:s8 c=false->r5 ai ops o an:=λk=>Fe λA=>by unfold AP at n;rw[List.all_cons,Bool.and_eq_true] at n;have:=n.1;simp only[A,k] at this;cases this
  split at h
  ·rename_i i;cases c with
   |p =>
    simp only at h;obtain⟨a,y,h⟩:=h;split at h
    ·rename_i pre v g d;exact .inr ⟨rfl,v,H,.inr ⟨i,m rfl,pre,R5 a d,h.1,rfl,y⟩,rfl,jm rest _ H j h.2⟩
    ·exact h.elim
   |q =>
    simp only at h;obtain⟨a,h⟩:=h;have u:AQ ai o=true:=by unfold bQ at a;rw[Bool.and_eq_true] at a;exact a.1
    have r:gC P ai o (ev an) H=gi P o (ev an) H:=kG u;split at h
    ·rename_i pre v g d;have:g=H:=tg a (r.trans d);subst this;exact .inr ⟨rfl,v,_,.inr ⟨i,m rfl,a,rfl,.inl ⟨pre,d,h.1⟩⟩,rfl,jm rest _ _ j h.2⟩
    ·rename_i d;obtain⟨x,k,hw⟩:=h;exact .inr ⟨rfl,.p x,H,.inr ⟨i,m rfl,a,rfl,.inr ⟨x,rfl,k,r.trans d⟩⟩,rfl,jm rest _ H j hw⟩
   |b =>
    simp only at h;obtain⟨a,h⟩:=h;have u:AQ ai o=true:=by unfold bQ at a;rw[Bool.and_eq_true] at a;exact a.1
    split at h
    ·rename_i pre v g d;have:g=tJ H:=tg a ((kG (H:=tJ H) u).trans d);subst this;exact .inr ⟨rfl,v,H,.inr ⟨i,m rfl,a,rfl,pre,d,h.1⟩,rfl,jm rest _ _ j h.2⟩
    ·exact h.elim
   |w =>
    simp only at h;split at h
    ·rename_i pre v g d;exact .inr ⟨rfl,v,g,.inr ⟨i,m rfl,pre,d,h.1⟩,trivial,jm rest _ g j h.2⟩
    ·exact h.elim
   |s =>
    simp only at h;obtain⟨B,h⟩:=h;split at h
    ·rename_i pre v g d;exact .inr ⟨rfl,v,g,.inr ⟨i,Fe λ_=>B,pre,d,h.1⟩,trivial,jm rest _ g j h.2⟩
    ·exact h.elim
   |f=>simp only at h;obtain⟨a,v,g,k,hw⟩:=h;exact .inr ⟨rfl,v,g,.inr ⟨i,m rfl,a,k⟩,trivial,jm rest _ g j hw⟩
   |t=>exact .inl ⟨rfl,.inr ⟨i,I6 (λe G hw=>jm rest e G j hw) h⟩⟩
   |o =>
    simp only at h;obtain⟨a,h⟩:=h;have u:AQ ai o=true:=by unfold bQ at a;rw[Bool.and_eq_true] at a;exact a.1
    have r:gC P ai o (ev an) (pW ai ops H)=gi P o (ev an) (pW ai ops H):=kG u;split at h
    ·rename_i pre v g d;have:g=pW ai ops H:=tg a (r.trans d);subst this;exact .inr ⟨rfl,v,H,.inr ⟨i,m rfl,a,rfl,.inl ⟨pre,d,h.1⟩⟩,rfl,jm rest _ _ j h.2⟩
    ·rename_i d;obtain⟨x,k,hw⟩:=h;exact .inr ⟨rfl,.p x,H,.inr ⟨i,m rfl,a,rfl,.inr ⟨x,rfl,k,r.trans d⟩⟩,rfl,jm rest _ H j hw⟩
  ·rename_i i;cases k:Bl c with
   |true=>exact .inl ⟨rfl,.inl ⟨i,jm rest _ H j h⟩⟩
   |false=>exact .inr ⟨rfl,.dY [],H,.inl ⟨i,rfl,rfl⟩,by cases c<;>trivial,jm rest _ H j h⟩
  ·exact h.elim
def B0(N:Nat)(ops:Array Oper):Bool:=ops.toList.all λo=>match o.dst with
 |some d=>decide (d<N)
 |none=>true
theorem z8(h:B0 N ops=true):∀ (i:Nat) o,ops[i]? = some o->wW N o.dst:=λi o b=>by
 have:=List.all_eq_true.1 h o (by
  have:=Array.mem_of_getElem? b;simpa using this)
 cases a:o.dst with
 |none=>trivial
 |some d=>rw[a] at this;show d<N;exact b6 this
def Ff(cs:List oU):List (Nat×oU):=(List.range cs.length).zip cs
def C9(N:Nat)(ai:List Nat)(ops:Array Oper)(m:List Nat)(cs:List oU):Bool:=BY ai ops m (Ff cs)&&B0 N ops&&cs.length == ops.size&&AP ai ops (ops.toList.zip cs)
theorem Sy{l:List Oper}{cs:List oU}(h:cs.length=l.length):((List.range cs.length).zip cs).filterMap (λx=>l.toArray[x.1]?)=l:=by
 have:((List.range cs.length).zip cs).filterMap (λx=>l.toArray[x.1]?)=(((List.range cs.length).zip cs).map (·.1)).filterMap (λi=>l.toArray[i]?):=by rw[List.filterMap_map];rfl
 rw[this,List.map_fst_zip (by simp),h];apply List.ext_getElem?;intro j;have a:(List.range l.length).filterMap (λi=>l.toArray[i]?)=l:=by
  have e:∀k,k<=l.length->(List.range k).filterMap (λi=>l.toArray[i]?)=l.take k:=by
   intro k
   induction k with
   |zero=>intro _;simp
   |succ k b =>
    intro c;rw[List.range_succ,List.filterMap_append,b (by omega),List.take_add_one];congr 1;have:l[k]? = some (l[k]'(by omega)):=by simp
    simp[this]
  rw[e l.length (Nat.le_refl _),List.take_length]
 rw[a]
theorem Sz{l:List Oper}(m:List Nat)(cs:List oU)(b:C9 N ai l.toArray m cs=true)(hw:gD P N ai l.toArray (l.zip cs) K an H):vW P N ai l.toArray K an H:=by
 unfold C9 at b;simp only[Bool.and_eq_true,beq_iff_eq] at b;obtain⟨⟨⟨c,d⟩,a⟩,e⟩:=b;have a:cs.length=l.length:=by simpa using a
 refine Jf m (Ff cs) (l.zip cs) c ?_ ?_ (z8 d) (jm _ _ _ (by simpa using e) hw)
 ·rw[List.map_fst_zip (by omega)];exact (Sy a).symm
 ·rw[List.map_snd_zip (by omega)];unfold Ff;rw[List.map_snd_zip (by simp)]
theorem SA{l:List Oper}(m:List Nat)(b:List (Nat×oU))(c:(BY ai l.toArray m b&&B0 N l.toArray)=true)(a:List (Oper×oU))(f:AP ai l.toArray a=true)(d:a.map (·.1)=b.filterMap (λx=>l.toArray[x.1]?))(e:a.map (·.2)=b.map (·.2))
  (hw:gD P N ai l.toArray a K an H):vW P N ai l.toArray K an H:=by
 rw[Bool.and_eq_true] at c;exact Jf m b a c.1 d e (z8 c.2) (jm _ _ _ f hw)
def u6(P : Program)(N : Nat)(ai : List Nat)(ops : Array Oper)(c : oU)(o : Oper)(rest : List (Oper × oU))(K : Env → az → Prop)(an : Env)(H : az) : Prop := match c with
   | .p=>nH o=true/\AQ ai o=true/\(match gi P o (ev an) cu with
    |some (pre,v,_)=>pre/\gD P N ai ops rest K (cW an o.dst v) H
    |none=>False)
   | .q=>bQ ai o=true/\(match gi P o (ev an) H with
    |some (pre,v,_)=>pre/\gD P N ai ops rest K (cW an o.dst v) H
    |none=>Bm P o (gD P N ai ops rest K) an H)
   | .b=>bQ ai o=true/\(match gi P o (ev an) (tJ H) with
    |some (pre,v,_)=>pre/\gD P N ai ops rest K (cW an o.dst v) H
    |none=>False)
   | .o=>bQ ai o=true/\(match gi P o (ev an) (pW ai ops H) with
    |some (pre,v,_)=>pre/\gD P N ai ops rest K (cW an o.dst v) H
    |none=>Fc P ai ops o (gD P N ai ops rest K) an H)
   | .w=>(match gC P ai o (ev an) H with
    |some (pre,v,a)=>pre/\gD P N ai ops rest K (cW an o.dst v) a
    |none=>False)
   | .s=>Bn ai o an/\(match gC P ai o (ev an) H with
    |some (pre,v,a)=>pre/\gD P N ai ops rest K (cW an o.dst v) a
    |none=>False)
   | .f=>bQ ai o=true/\BZ P ai ops o (gD P N ai ops rest K) an H
   | .t=>AN P ai o (gD P N ai ops rest K) an H
def Fg(P:Program)(N:Nat)(ai:List Nat)(ops:Array Oper)(r:Option (Prop×AV×az))(o:Oper)(rest:List (Oper×oU))(K:Env->az->Prop)(an:Env)(H:az):Prop:=match r with
 |some (pre,v,a)=>pre/\gD P N ai ops rest K (cW an o.dst v) a
 |none=>j6 P o (gD P N ai ops rest K) an H
def Jg(P:Program)(N:Nat)(ai:List Nat)(ops:Array Oper)(r:Option (Prop×AV×az))(o:Oper)(rest:List (Oper×oU))(K:Env->az->Prop)(an:Env)(H:az):Prop:=match r with
 |some (pre,v,_)=>pre/\gD P N ai ops rest K (cW an o.dst v) H
 |none=>Fc P ai ops o (gD P N ai ops rest K) an H
def wC(P : Program)(N : Nat)(ai : List Nat)(ops : Array Oper)(g : Option Bool)(c : oU)(o : Oper)(rest : List (Oper × oU))(K : Env → az → Prop)(an : Env)(H : az) : Prop := match g with
  |some true=>u6 P N ai ops c o rest K an H
  |some false=>gD P N ai ops rest K (cW an o.dst (.dY [])) H
  |none=>False
def Fh(P:Program)(N:Nat)(ai:List Nat)(ops:Array Oper)(r:Option (Prop×AV×az))(o:Oper)(rest:List (Oper×oU))(K:Env->az->Prop)(an:Env)(H:az):Prop:=match r with
 |some (pre,v,_)=>pre/\gD P N ai ops rest K (cW an o.dst v) H
 |none=>Bm P o (gD P N ai ops rest K) an H
def Fi(P:Program)(N:Nat)(ai:List Nat)(ops:Array Oper)(r:Option (Prop×AV×az))(o:Oper)(rest:List (Oper×oU))(K:Env->az->Prop)(an:Env):Prop:=match r with
 |some (pre,v,a)=>pre/\gD P N ai ops rest K (cW an o.dst v) a
 |none=>False
def Fj(P:Program)(N:Nat)(ai:List Nat)(ops:Array Oper)(r:Option (Prop×AV×az))(o:Oper)(rest:List (Oper×oU))(K:Env->az->Prop)(an:Env)(H:az):Prop:=match r with
 |some (pre,v,_)=>pre/\gD P N ai ops rest K (cW an o.dst v) H
 |none=>False
section
variable(o:Oper)(rest:List (Oper×oU))
theorem SB:gD P N ai ops [] K an H=K an H:=rfl
theorem SD(c:oU):gD P N ai ops ((o,c) :: rest) K an H=(wW N o.dst/\wC P N ai ops (nC ops o an) c o rest K an H):=by rw[gD.eq_def];unfold wC u6;rfl
theorem SE(c:oU):wC P N ai ops (some true) c o rest K an H=u6 P N ai ops c o rest K an H:=rfl
theorem SF(c:oU):wC P N ai ops (some false) c o rest K an H=gD P N ai ops rest K (cW an o.dst (.dY [])) H:=rfl
theorem SG:u6 P N ai ops .p o rest K an H=(nH o=true/\AQ ai o=true/\Fj P N ai ops (gi P o (ev an) cu) o rest K an H):=rfl
theorem SH:u6 P N ai ops .q o rest K an H=(bQ ai o=true/\Fh P N ai ops (gi P o (ev an) H) o rest K an H):=rfl
theorem SI:u6 P N ai ops .b o rest K an H=(bQ ai o=true/\Fj P N ai ops (gi P o (ev an) (tJ H)) o rest K an H):=rfl
theorem SJ:u6 P N ai ops .w o rest K an H=Fi P N ai ops (gC P ai o (ev an) H) o rest K an:=rfl
theorem SK:u6 P N ai ops .o o rest K an H=(bQ ai o=true/\Jg P N ai ops (gi P o (ev an) (pW ai ops H)) o rest K an H):=rfl
theorem SL:u6 P N ai ops .s o rest K an H=(Bn ai o an/\Fi P N ai ops (gC P ai o (ev an) H) o rest K an):=rfl
theorem SM:u6 P N ai ops .f o rest K an H=(bQ ai o=true/\BZ P ai ops o (gD P N ai ops rest K) an H):=rfl
theorem SN:u6 P N ai ops .t o rest K an H=Fg P N ai ops (gC P ai o (ev an) H) o rest K an H:=rfl
theorem SO(pre:Prop)(v:AV)(a:az):Fg P N ai ops (some (pre,v,a)) o rest K an H=(pre/\gD P N ai ops rest K (cW an o.dst v) a):=rfl
theorem SP:Fg P N ai ops none o rest K an H=j6 P o (gD P N ai ops rest K) an H:=rfl
attribute [go_sem] SN SO SP
theorem SQ(pre:Prop)(v:AV)(a:az):Jg P N ai ops (some (pre,v,a)) o rest K an H=(pre/\gD P N ai ops rest K (cW an o.dst v) H):=rfl
theorem SR(pre:Prop)(v:AV)(a:az):Fj P N ai ops (some (pre,v,a)) o rest K an H=(pre/\gD P N ai ops rest K (cW an o.dst v) H):=rfl
theorem SS(pre:Prop)(v:AV)(a:az):Fh P N ai ops (some (pre,v,a)) o rest K an H=(pre/\gD P N ai ops rest K (cW an o.dst v) H):=rfl
theorem SU:Fh P N ai ops none o rest K an H=Bm P o (gD P N ai ops rest K) an H:=rfl
theorem SV(pre:Prop)(v:AV)(a:az):Fi P N ai ops (some (pre,v,a)) o rest K an=(pre/\gD P N ai ops rest K (cW an o.dst v) a):=rfl
end
section
variable(d:Option Tmp)(t u:TypeId)(pos:String)(af:Array Edge)(g:Option (Nat×Bool))
def pX(ai:List Nat):Option Tmp->Bool
 |some d=>!ai.contains d
 |none=>true
theorem SX(k:Nat):pX ai (some k) = !ai.contains k:=rfl
theorem SY(o:Oper):AQ ai o=pX ai o.dst:=rfl
theorem SZ(e:TypeId)(k:Nat)(x:Operand):Bn ai ⟨d,.store e (.tmp k) x,t,pos,af,g⟩ an = ∃off,an k = .ptr k off:=rfl
theorem S0(ai:List Nat)(ops:Array Oper)(H:az)(i:Nat):pW ai ops H i=if me ai ops i=true then none else H i:=rfl
def Fk:Option Chunk->Option Chunk
 |some (.box cs)=>some (.box cs)
 |_=>none
theorem S1(H:az)(i:Nat):tJ H i=Fk (H i):=by
 unfold tJ Fk;cases H i with
 |none=>rfl
 |some c=>cases c<;>rfl
theorem S2(cs:List AV):Fk (some (.box cs))=some (.box cs):=rfl
theorem S3(x:Operand):nH ⟨d,.move x,t,pos,af,g⟩=true:=rfl
theorem S4(x:Operand):nH ⟨d,.assign x,t,pos,af,g⟩=true:=rfl
theorem S5(x y z:Operand):nH ⟨d,.pick x y z,t,pos,af,g⟩=true:=rfl
theorem S6(x:Operand):nH ⟨d,.load u x,t,pos,af,g⟩=true:=rfl
theorem S7(x:Operand)(k:Nat):nH ⟨d,.fieldAddr u x k,t,pos,af,g⟩=true:=rfl
theorem S8(x y:Operand):nH ⟨d,.indexAddr u x y,t,pos,af,g⟩=true:=rfl
theorem S9(x:Operand)(k:Nat):nH ⟨d,.extract x k,t,pos,af,g⟩=true:=rfl
theorem Ta(a:BinOp)(x y:Operand)(v:TypeId):nH ⟨d,.binOp a u x y v,t,pos,af,g⟩=true:=rfl
theorem Tb(a:UnOp)(x:Operand):nH ⟨d,.unOp a u x,t,pos,af,g⟩=true:=rfl
theorem Tc(x:Array (Nat×Operand)):nH ⟨d,.build u x,t,pos,af,g⟩=true:=rfl
theorem Td(n:Nat)(x:Array (Nat×Operand)):nH ⟨d,.buildSlice u n x,t,pos,af,g⟩=true:=rfl
theorem Te(x:Operand)(l h m:Option Operand):nH ⟨d,.slice u x l h m,t,pos,af,g⟩=true:=rfl
theorem Tf(x:Operand):nH ⟨d,.nilCheck x,t,pos,af,g⟩=true:=rfl
theorem Tg(c:Call):nH ⟨d,.call c,t,pos,af,g⟩=true:=rfl
theorem quiet_move(x:Operand):bQ ai ⟨d,.move x,t,pos,af,g⟩=pX ai d:=by cases d<;>simp only[bQ,pX,Bool.and_true]
theorem quiet_assign(x:Operand):bQ ai ⟨d,.assign x,t,pos,af,g⟩=pX ai d:=by cases d<;>simp only[bQ,pX,Bool.and_true]
theorem Th(x y z:Operand):bQ ai ⟨d,.pick x y z,t,pos,af,g⟩=pX ai d:=by cases d<;>simp only[bQ,pX,Bool.and_true]
theorem Ti(x:Operand):bQ ai ⟨d,.load u x,t,pos,af,g⟩=pX ai d:=by cases d<;>simp only[bQ,pX,Bool.and_true]
theorem Tj(x:Operand)(k:Nat):bQ ai ⟨d,.fieldAddr u x k,t,pos,af,g⟩=pX ai d:=by cases d<;>simp only[bQ,pX,Bool.and_true]
theorem Tk(x y:Operand):bQ ai ⟨d,.indexAddr u x y,t,pos,af,g⟩=pX ai d:=by cases d<;>simp only[bQ,pX,Bool.and_true]
theorem Tl(x:Operand)(k:Nat):bQ ai ⟨d,.extract x k,t,pos,af,g⟩=pX ai d:=by cases d<;>simp only[bQ,pX,Bool.and_true]
theorem Tm(a:BinOp)(x y:Operand)(v:TypeId):bQ ai ⟨d,.binOp a u x y v,t,pos,af,g⟩=pX ai d:=by cases d<;>simp only[bQ,pX,Bool.and_true]
theorem Tn(a:UnOp)(x:Operand):bQ ai ⟨d,.unOp a u x,t,pos,af,g⟩=pX ai d:=by cases d<;>simp only[bQ,pX,Bool.and_true]
theorem To(x:Operand)(v:TypeId):bQ ai ⟨d,.convert u v x,t,pos,af,g⟩=pX ai d:=by cases d<;>simp only[bQ,pX,Bool.and_true]
theorem Tp(x:Array (Nat×Operand)):bQ ai ⟨d,.build u x,t,pos,af,g⟩=pX ai d:=by cases d<;>simp only[bQ,pX,Bool.and_true]
theorem Tq(x:Operand)(l h m:Option Operand):bQ ai ⟨d,.slice u x l h m,t,pos,af,g⟩=pX ai d:=by cases d<;>simp only[bQ,pX,Bool.and_true]
theorem Tr(x:Operand):bQ ai ⟨d,.nilCheck x,t,pos,af,g⟩=pX ai d:=by cases d<;>simp only[bQ,pX,Bool.and_true]
theorem Ts(f:Operand)(xs:Array Operand)(a:Array TypeId):bQ ai ⟨d,.call ⟨.value f,xs,a⟩,t,pos,af,g⟩=pX ai d:=by cases d<;>simp only[bQ,pX,Bool.and_true]
theorem Tt(xs:Array Operand)(a:Array TypeId):bQ ai ⟨d,.call ⟨.builtin .len,xs,a⟩,t,pos,af,g⟩=pX ai d:=by cases d<;>simp only[bQ,pX,Bool.and_true]
end
def lp(o:Oper)(ρ:Operand->AV)(H:az):Option (FuncId×List PV×Bool):=match dL o ρ with
 |some (k,fe)=>(match eG (ia H) fe with
  |some (ps,b)=>some (k,ps,b)
  |none=>none)
 |none=>none
def B1(k:FuncId)(r:Option (List PV×Bool)):Option (FuncId×List PV×Bool):=match r with
 |some (ps,b)=>some (k,ps,b)
 |none=>none
def Da(f:AV)(fe:List AV)(H:az):Option (FuncId×List PV×Bool):=match f with
 | .p (.iT (.func k) a cs)=>B1 k (eG (ia H) (a.map AV.p++fe++cs.map AV.p))
 | .iT (.func k) a cs=>B1 k (eG (ia H) (a++fe++cs))
 |_=>none
theorem Tu(d:Option Tmp)(t:TypeId)(pos:String)(af:Array Edge)(g:Option (Nat×Bool))(f:Operand)(xs:Array Operand)(c:Array TypeId)(ρ:Operand->AV) :
  lp ⟨d,.call ⟨.value f,xs,c⟩,t,pos,af,g⟩ ρ H=Da (ρ f) (xs.toList.map ρ) H:=by
 unfold lp dL Da;simp only[];cases ρ f with
 |p x=>cases x with
  |iT a b cs=>cases a<;>rfl
  |_=>rfl
 |iT a b cs=>cases a<;>rfl
 |_=>rfl
theorem Tv(k:FuncId)(a cs:List PV)(fe:List AV):Da (.p (.iT (.func k) a cs)) fe H=B1 k (eG (ia H) (a.map AV.p++fe++cs.map AV.p)):=rfl
theorem Tw(k:FuncId)(a cs fe:List AV):Da (.iT (.func k) a cs) fe H=B1 k (eG (ia H) (a++fe++cs)):=rfl
theorem Tx(k:FuncId)(ps:List PV)(b:Bool):B1 k (some (ps,b))=some (k,ps,b):=rfl
theorem Db{o:Oper}{ρ:Operand->AV}{k:FuncId}{ps:List PV}{b:Bool}{x:PV}(c:aS P k ps λr=>r=x)(a:lp o ρ H=some (k,ps,b))(e:b=true->x.scalar=true):zx P o ρ H x:=by
 unfold lp at a;cases d:dL o ρ with
 |none=>rw[d] at a;cases a
 |some r =>
  obtain⟨g,fe⟩:=r;rw[d] at a;simp only[] at a;cases hl:eG (ia H) fe with
  |none=>rw[hl] at a;cases a
  |some q=>obtain⟨h,f⟩:=q;rw[hl] at a;simp only[cG,iU] at a;obtain⟨rfl,rfl,rfl⟩:=a;exact⟨_,fe,_,_,d,hl,c,e⟩
theorem aX{o:Oper}{W:Env->az->Prop}{k:FuncId}{ps:List PV}{b:Bool}{x:PV}(c:aS P k ps λr=>r=x)(e:lp o (ev an) H=some (k,ps,b))(d:b=true->x.scalar=true)
  (a:W (cW an o.dst (.p x)) H):j6 P o W an H:=.inl (.inl ⟨[],xP (Db c e d) a⟩)
theorem jV{o:Oper}{W:Env->az->Prop}{k:FuncId}{ps:List PV}{b:Bool}{x:PV}(c:aS P k ps λr=>r=x)(e:lp o (ev an) H=some (k,ps,b))(d:b=true->x.scalar=true)
  (a:W (cW an o.dst (.p x)) H):Bm P o W an H:=⟨x,Db c e d,a⟩
theorem Tz{o:Oper}{W:Env->az->Prop}{k:FuncId}{ps:List PV}{b:Bool}{x:PV}(ids:List Nat)(c:aS P k ps λr=>r=x)(e:lp o (ev an) (eH ids H)=some (k,ps,b))(d:b=true->x.scalar=true)
  (a:W (cW an o.dst (.p x)) (eH ids H)):j6 P o W an H:=.inl (.inl ⟨ids,xP (Db c e d) a⟩)
theorem th{o:Oper}{W:Env->az->Prop}{k:FuncId}{ps:List PV}{b:Bool}{Q:PV->Prop}(c:aS P k ps Q)(a:lp o (ev an) H=some (k,ps,b))
  (e:∀r,Q r->(b=true->r.scalar=true)/\W (cW an o.dst (.p r)) H):j6 P o W an H:=by
 unfold lp at a;cases d:dL o (ev an) with
 |none=>rw[d] at a;cases a
 |some r =>
  obtain⟨g,fe⟩:=r;rw[d] at a;simp only[] at a;cases hl:eG (ia H) fe with
  |none=>rw[hl] at a;cases a
  |some q=>obtain⟨h,f⟩:=q;rw[hl] at a;simp only[cG,iU] at a;obtain⟨rfl,rfl,rfl⟩:=a;exact .inl (.inl ⟨[],_,fe,_,_,Q,d,hl,c,e⟩)
theorem TA{o:Oper}{W:Env->az->Prop}{k:FuncId}{ps:List PV}{x:PV}(c:EB P k ps x)(b:dL o (ev an)=some (k,ps.map AV.p))(a:W (cW an o.dst (.p x)) H):j6 P o W an H:=.inl (.inr (.inl ⟨k,ps,x,b,c,a⟩))
theorem cc{b:Bool}{x:PV}(h:x.scalar=true):b=true->x.scalar=true:=λ_=>h
theorem y6{x:PV} : false=true->x.scalar=true:=λh=>by cases h
def fN(o:Oper)(k:Nat):Bool:=o.dst == some k&&match o.op with
 | .alloc _=>true
 | .box ..=>true
 | .buildSlice ..=>true
 | .makeSlice ..=>true
 |_=>false
theorem TB(k:Nat):me ai (List.toArray []) k=ai.contains (2000000+k):=rfl
theorem TC(o:Oper)(l:List Oper)(k:Nat):me ai (List.toArray (o :: l)) k=(fN o k||me ai (List.toArray l) k):=by unfold me;simp only[List.any_cons,Bool.or_assoc];try rfl
section
variable(d:Option Tmp)(t u:TypeId)(pos:String)(af:Array Edge)(g:Option (Nat×Bool))
theorem TD(j k:Nat):fN ⟨some j,.alloc u,t,pos,af,g⟩ k=(j == k):=by unfold fN;simp only[Bool.and_true];rw[Bool.eq_iff_iff];simp
theorem TE(x:Operand)(a:Nat):fN ⟨d,.move x,t,pos,af,g⟩ a=false:=by unfold fN;simp only[Bool.and_false]
theorem TF(x:Operand)(a:Nat):fN ⟨d,.assign x,t,pos,af,g⟩ a=false:=by unfold fN;simp only[Bool.and_false]
theorem TG(x y z:Operand)(a:Nat):fN ⟨d,.pick x y z,t,pos,af,g⟩ a=false:=by unfold fN;simp only[Bool.and_false]
theorem TH(x:Operand)(a:Nat):fN ⟨d,.load u x,t,pos,af,g⟩ a=false:=by unfold fN;simp only[Bool.and_false]
theorem TI(x:Operand)(k:Nat)(a:Nat):fN ⟨d,.fieldAddr u x k,t,pos,af,g⟩ a=false:=by unfold fN;simp only[Bool.and_false]
theorem TJ(x y:Operand)(a:Nat):fN ⟨d,.indexAddr u x y,t,pos,af,g⟩ a=false:=by unfold fN;simp only[Bool.and_false]
theorem TK(x:Operand)(k:Nat)(a:Nat):fN ⟨d,.extract x k,t,pos,af,g⟩ a=false:=by unfold fN;simp only[Bool.and_false]
theorem TL(b:BinOp)(x y:Operand)(v:TypeId)(a:Nat):fN ⟨d,.binOp b u x y v,t,pos,af,g⟩ a=false:=by unfold fN;simp only[Bool.and_false]
theorem TM(x:Array (Nat×Operand))(a:Nat):fN ⟨d,.build u x,t,pos,af,g⟩ a=false:=by unfold fN;simp only[Bool.and_false]
theorem TN(n:Nat)(x:Array (Nat×Operand))(j k:Nat):fN ⟨some j,.buildSlice u n x,t,pos,af,g⟩ k=(j == k):=by unfold fN;simp only[Bool.and_true];rw[Bool.eq_iff_iff];simp
theorem TO(c:Call)(a:Nat):fN ⟨d,.call c,t,pos,af,g⟩ a=false:=by unfold fN;simp only[Bool.and_false]
theorem TP(x y:Operand)(a:Nat):fN ⟨d,.store u x y,t,pos,af,g⟩ a=false:=by unfold fN;simp only[Bool.and_false]
end
attribute [go_sem] TB TC TD TE TF TG TH TI TJ TK TL TM TN TO TP Bool.false_or Bool.or_false Bool.true_or Bool.or_true SK SL SM SQ SZ Se Sf AV.ptr.injEq S0 Tu Tv Tw Tx SB SD SE SF SG SH SI SJ S1 S2 SR SS SU SV SY SX List.contains_cons List.contains_nil S3 S4 S5 S6 S7 S8 S9 Ta Tb Tc Td Te Tf Tg quiet_move quiet_assign Th Ti Tj Tk Tl Tm Tn To Tp Tq Tr Ts Tt List.zip_cons_cons List.zip_nil_left
end Go.cv
namespace Go.cv
open Go.RowKit
variable{P:Program}{t:TypeId}
theorem TQ(d:Int):gE d none=some d:=rfl
theorem TR(d:Int)(k:IntKind)(n:Int):gE d (some (.p (.val (.int k n))))=some n:=rfl
def Fl(a b:Option Int)(s:ByteArray):Option (Prop×AV):=match a,b with
 |some l,some h=>some (0<=l/\l<=h/\h<=s.size,.p (.val (.string (s.extract l.toNat h.toNat))))
 |_,_=>none
theorem TS{s:ByteArray}{lo a:Option AV}(h:zj P t=true):tF P t (.p (.val (.string s))) lo a none=Fl (gE 0 lo) (gE s.size a) s:=by unfold tF Fl;simp only[h];all_goals(cases gE 0 lo<;>cases gE s.size a<;>rfl)
theorem TT(l h:Int)(s:ByteArray):Fl (some l) (some h) s=some (0<=l/\l<=h/\h<=s.size,.p (.val (.string (s.extract l.toNat h.toNat)))):=rfl
def Fm(e:Option TypeId)(f:TypeId->Option Nat)(a b:Option Int)(es:List (List PV)):Option (Prop×AV):=match e,a,b with
 |some e,some l,some h=>(match f e with
  |some sz=>some ((0<=l/\l<=h/\h<=es.length)/\∀x∈es,x.length=sz,.p (.aV ((es.take h.toNat).drop l.toNat)))
  |none=>none)
 |_,_,_=>none
theorem TU{es:List (List PV)}{lo a:Option AV} : tF P t (.p (.aV es)) lo a none=Fm (cT P t) (bu P) (gE 0 lo) (gE es.length a) es:=by unfold tF Fm;simp only[];all_goals(cases cT P t<;>cases gE 0 lo<;>cases gE es.length a<;>rfl)
theorem TV(e:TypeId)(f:TypeId->Option Nat)(l h:Int)(es:List (List PV)):Fm (some e) f (some l) (some h) es=(match f e with
  |some sz=>some ((0<=l/\l<=h/\h<=es.length)/\∀x∈es,x.length=sz,.p (.aV ((es.take h.toNat).drop l.toNat)))
  |none=>none):=rfl
theorem TW(i:Nat):cu i=none:=rfl
attribute [go_sem] TW TQ TR TS TT TU TV Option.map_none Option.map_some
theorem dB{N:Nat}{ai:List Nat}{K:Env->az->Prop}{an:Env}{H:az}{l:List Oper}(cs:List oU)(a:C9 N ai l.toArray (masks l.toArray) cs=true)(hw:gD P N ai l.toArray (l.zip cs) K an H):vW P N ai l.toArray K an H:=Sz (masks l.toArray) cs a hw
theorem VR.TX{I:Mem}{v:Value}(h:VR I v (.val (.slice none 0 0))):VR I v (.aV []):=by cases h;exact .aV none 0 0 [] [] 1 rfl (by simp) rfl (by simp) (by simp) (.inl rfl) (λ_=>⟨rfl,rfl⟩) (Nat.le_refl _)
theorem VR.TY{I:Mem}{v:Value}(h:VR I v .emp):VR I v (.aV []):=by cases h;rename_i a;exact .aV a 0 0 [] [] 1 rfl (by simp) rfl (by simp) (by simp) (.inl rfl) (λ_=>⟨rfl,rfl⟩) (Nat.le_refl _)
def l5(a p:PV):Prop:=∀I v,VR I v a->VR I v p
theorem l5.refl(p:PV):l5 p p:=λ_ _ h=>h
theorem l5.nil:l5 (.val (.slice none 0 0)) (.aV []):=λ_ _ h=>h.TX
theorem l5.emp:l5 .emp (.aV []):=λ_ _ h=>h.TY
def tj:List PV->List PV->Prop
 | [],[]=>True
 |a :: r,b :: s=>l5 a b/\tj r s
 |_,_=>False
theorem tj.Fo{I:Mem} : ∀ {i ps:List PV},tj i ps->∀ {vs:List Value},qs I vs i->qs I vs ps
 | [],[],_,vs,h=>h
 | [],_ :: _,h,_,_=>h.elim
 |_ :: _,[],h,_,_=>h.elim
 |a :: r,b :: s,h,[],f=>by have:=f.1;simp at this
 |a :: r,b :: s,h,v :: vs,f=>by
  have g:=tj.Fo (I:=I) h.2 (vs:=vs) ⟨by simpa using f.1,λj u c e d=>f.2 (j+1) u c e d⟩;refine⟨by simpa using g.1,λj u c e d=>?_⟩;cases j with
  |zero=>simp at e d;subst e d;exact h.1 _ _ (f.2 0 v a rfl rfl)
  |succ j=>exact g.2 j u c (by simpa using e) (by simpa using d)
theorem aS.args{f:FuncId}{ps a:List PV}{Q:PV->Prop}(h:aS P f ps Q)(c:tj a ps):aS P f a Q:=⟨h.1,λI w vs b d=>h.2 I w vs b (c.Fo d)⟩
end Go.cv
namespace Go.cv
open Go.RowKit
variable{P:Program}{ai:List Nat}{an:Env}{H:az}
def yI(l:List Oper):List (Nat×oU)->List (Oper×oU)
 | []=>[]
 |(i,c) :: r=>(match l[i]? with
  |some o=>(o,c) :: yI l r
  |none=>yI l r)
theorem TZ(l:List Oper):yI l []=[]:=rfl
theorem Fp(l:List Oper)(i:Nat)(c:oU)(r:List (Nat×oU)):yI l ((i,c) :: r)=(match l[i]? with
  |some o=>(o,c) :: yI l r
  |none=>yI l r):=rfl
theorem Fq(l:List Oper):∀a:List (Nat×oU),(yI l a).map (·.1)=a.filterMap (λx=>l.toArray[x.1]?)
 | []=>rfl
 |(i,c) :: r=>by
  rw[Fp,List.filterMap_cons];cases h:l[i]? with
  |none=>simp[h,Fq l r]
  |some o=>simp[h,Fq l r]
theorem Jh(l:List Oper):∀a:List (Nat×oU),(a.all λx=>decide (x.1<l.length))=true->(yI l a).map (·.2)=a.map (·.2)
 | [],_=>rfl
 |(i,c) :: r,h=>by simp only[List.all_cons,Bool.and_eq_true,decide_eq_true_eq] at h;rw[Fp,List.getElem?_eq_getElem h.1];simp[Jh l r h.2]
def Fs(N:Nat)(ai:List Nat)(l:List Oper)(a:List (Nat×oU)):Bool:=BY ai l.toArray (masks l.toArray) a&&B0 N l.toArray&&AP ai l.toArray (yI l a)&&a.all λx=>decide (x.1<l.length)
theorem Ft{N:Nat}{K:Env->az->Prop}{l:List Oper}(a:List (Nat×oU))(b:Fs N ai l a=true)(hw:gD P N ai l.toArray (yI l a) K an H):vW P N ai l.toArray K an H:=by unfold Fs at b;rw[Bool.and_eq_true,Bool.and_eq_true] at b;exact SA (masks l.toArray) a b.1.1 (yI l a) b.1.2 (Fq l a) (Jh l a b.2) hw
def nG(c:Option Chunk)(r:Option (Prop×AV×az)):Option (Prop×AV×az):=match c with
 |some _=>none
 |none=>r
theorem T0(r:Prop×AV×az)(b:Bool)(y:Option (Prop×AV×az)):oy (some r) b y=some r:=rfl
theorem T1(y:Option (Prop×AV×az)):oy none true y=y:=rfl
theorem T2(t:TypeId)(n:Nat)(ps:Array (Nat×Operand)):isApp (.buildSlice t n ps)=false:=rfl
theorem T3(t:TypeId)(a b:Operand):isApp (.makeSlice t a b)=false:=rfl
theorem T4(xs:Array Operand)(a:Array TypeId):isApp (.call ⟨.builtin .append,xs,a⟩)=true:=rfl
theorem T5(f:Operand)(xs:Array Operand)(a:Array TypeId):isApp (.call ⟨.value f,xs,a⟩)=false:=rfl
theorem T6(r:Option (Prop×AV×az)):nG none r=r:=rfl
def Dc(P:Program)(r:Option (TypeId×List (List PV)))(d:Nat)(H:az)(n:Nat)(c:Option (TypeId×List AV)):Option (Prop×AV×az):=match r with
 |some (e,es)=>(match bu P e with
  |some sz=>some (True,.row d 0,bn H d (.row 0 e sz es))
  |none=>none)
 |none=>(match c with
  |some (_,cs)=>some (True,.eo d n,bn H d (.box cs))
  |none=>none)
theorem T7(d n:Nat)(e:TypeId)(cs:List AV):Dc P none d H n (some (e,cs))=some (True,.eo d n,bn H d (.box cs)):=rfl
theorem T8(e:TypeId)(es:List (List PV))(d n:Nat)(c:Option (TypeId×List AV)):Dc P (some (e,es)) d H n c=(match bu P e with
  |some sz=>some (True,.row d 0,bn H d (.row 0 e sz es))
  |none=>none):=rfl
def Fu(P:Program)(e:Option TypeId)(a b:AV)(d:Nat)(H:az):Option (Prop×AV×az):=match a,b,e with
 | .p (.val (.int _ n)), .p (.val (.int _ m)), some e => (match bu P e, cN P e, xI P e with
    | some sz, some c, some f => if c.length = sz ∧ 0 < sz ∧ 0 < f ∧ c.all (·.oneCell') = true then
      some ((0<=n/\m=n)/\n * f<=140737488355328,.row d 0,bn H d (.row 0 e sz (List.replicate n.toNat (c.map PV.val)))) else none
    |_,_,_=>none)
 |_,_,_=>none
theorem T9(k c:IntKind)(n m:Int)(e:TypeId)(d:Nat):Fu P (some e) (.p (.val (.int k n))) (.p (.val (.int c m))) d H=(match bu P e,cN P e,xI P e with
    | some sz, some a, some b => if a.length = sz ∧ 0 < sz ∧ 0 < b ∧ a.all (·.oneCell') = true then
      some ((0<=n/\m=n)/\n * b<=140737488355328,.row d 0,bn H d (.row 0 e sz (List.replicate n.toNat (a.map PV.val)))) else none
    |_,_,_=>none):=rfl
def Dd(a:AV)(ty:Option (TypeId×Nat×Nat))(b:Option (List (List PV)))(d:Nat)(H:az):Option (Prop×AV×az):=match a,ty,b with
 | .p (.val (.slice none 0 0)),some (e,sz,c),some es=>some (es.length * c<=140737488355328/\∀x∈es,x.length=sz,.row d 0,bn H d (.row 0 e sz es))
 |_,_,_=>none
theorem Ua(i v:Nat)(ty:Option (TypeId×Nat×Nat))(b:Option (List (List PV)))(d:Nat):Dd (.row i v) ty b d H=none:=rfl
theorem Ub(e:TypeId)(sz a:Nat)(es:List (List PV))(d:Nat):Dd (.p (.val (.slice none 0 0))) (some (e,sz,a)) (some es) d H=some (es.length * a<=140737488355328/\∀x∈es,x.length=sz,.row d 0,bn H d (.row 0 e sz es)):=rfl
section
variable(dd:Option Tmp)(ty:TypeId)(pos:String)(af:Array Edge)(g:Option (Nat×Bool))(ρ:Operand->AV)
theorem Uc(t:TypeId)(n:Nat)(ps:Array (Nat×Operand))(d:Nat):kB P ⟨dd,.buildSlice t n ps,ty,pos,af,g⟩ ρ H d=nG (H d) (Dc P (mu P t n (ps.toList.map λx=>(x.1,ρ x.2))) d H n (vU P t n (ps.toList.map λx=>(x.1,ρ x.2)))):=by
 unfold kB nG Dc;cases H d with
 |some c=>rfl
 |none=>rfl
theorem Ud(t:TypeId)(l c:Operand)(d:Nat):kB P ⟨dd,.makeSlice t l c,ty,pos,af,g⟩ ρ H d=nG (H d) (Fu P (cT P t) (ρ l) (ρ c) d H):=by
 unfold kB nG Fu;cases H d with
 |some c=>rfl
 |none=>rfl
theorem Ue(t1 t2:TypeId)(a b:Operand)(d:Nat):kB P ⟨dd,.call ⟨.builtin .append,#[a,b],#[t1,t2]⟩,ty,pos,af,g⟩ ρ H d=nG (H d) (Dd (ρ a) (dA P t1 t2) (vV H (ρ b)) d H):=by
 unfold kB nG Dd;cases H d with
 |some c=>rfl
 |none=>rfl
end
def Ji(H:az)(Q:RV->Prop)(a:Option AV):Prop:=match a with
 | some a => (match ql H a with
   |some (r,ids)=>ids.Nodup/\∃b,o4 r b/\Q b
   |none=>False)
 |none=>False
theorem Uf(a:List ResultVar)(Q:RV->Prop):CX P a Q .ret an H=Ji H Q (pS P an H a):=rfl
def Jj(Q : RV → Prop)(x : Option (RV × List Nat)) : Prop := match x with
   |some (r,ids)=>ids.Nodup/\∃a,o4 r a/\Q a
   |none=>False
theorem Ug(a:AV)(Q:RV->Prop):Ji H Q (some a)=Jj Q (ql H a):=rfl
theorem Uh(Q:RV->Prop)(r:RV)(ids:List Nat):Jj Q (some (r,ids))=(ids.Nodup/\∃a,o4 r a/\Q a):=rfl
theorem Ui(x:PV):ql H (.p x)=some (.p x,[]):=by simp only[ql]
def Fv(c : Option Chunk)(id a : Nat) : Option (RV × List Nat) := match c with
  |some (.row v e sz es)=>if v=a then some (.row e sz es,[id]) else none
  |some (.shut v es)=>if v=a then some (.p (.aV es),[]) else none
  |_=>none
theorem Uj(id a:Nat):ql H (.row id a)=Fv (H id) id a:=by unfold Fv;simp only[ql];try rfl
theorem Uk(v:Nat)(e:TypeId)(sz:Nat)(es:List (List PV))(id a:Nat):Fv (some (.row v e sz es)) id a=if v=a then some (.row e sz es,[id]) else none:=rfl
theorem Ul(cs:List AV):ql H (.agg cs)=(match wY H cs with
  |some (a,ids)=>some (.agg a,ids)
  |none=>none):=by simp only[ql];try rfl
theorem Um(cs:List AV):ql H (.dY cs)=(match wY H cs with
  |some (a,ids)=>some (.dY a,ids)
  |none=>none):=by simp only[ql];try rfl
theorem Un:wY H []=some ([],[]):=by simp only[wY]
theorem Uo(a:AV)(r:List AV):wY H (a :: r)=(match ql H a,wY H r with
  |some (x,i),some (xs,j)=>some (x :: xs,i++j)
  |_,_=>none):=by simp only[wY];try rfl
theorem Up(k:Nat)(x:PV):dz k (.p x)=(.p x,k):=by simp only[dz]
theorem Uq(k:Nat)(e:TypeId)(sz:Nat)(es:List (List PV)):dz k (.row e sz es)=(.row k 0,k+1):=by simp only[dz]
theorem Ur(k:Nat)(a:List RV):dz k (.agg a)=(yG (jK k a).1,(jK k a).2):=by simp only[dz]
theorem Us(k:Nat)(a:List RV):dz k (.dY a)=(.dY (jK k a).1,(jK k a).2):=by simp only[dz]
theorem Ut(k:Nat):jK k []=([],k):=by simp only[jK]
theorem Uu(k:Nat)(r:RV)(a:List RV):jK k (r :: a)=((dz k r).1 :: (jK (dz k r).2 a).1,(jK (dz k r).2 a).2):=by simp only[jK]
theorem Uv(k:Nat)(x:PV):iO k H (.p x)=H:=by simp only[iO]
theorem Uw(k:Nat)(e:TypeId)(sz:Nat)(es:List (List PV)):iO k H (.row e sz es)=bn H k (.row 0 e sz es):=by simp only[iO]
theorem Ux(k:Nat)(a:List RV):iO k H (.agg a)=lI k H a:=by simp only[iO]
theorem Uy(k:Nat)(a:List RV):iO k H (.dY a)=lI k H a:=by simp only[iO]
theorem Uz(k:Nat):lI k H []=H:=by simp only[lI]
theorem UA(k:Nat)(r:RV)(a:List RV):lI k H (r :: a)=lI (dz k r).2 (iO k H r) a:=by simp only[lI]
def oo(H:az)(id:Nat):Nat->Prop
 |0=>True
 |n+1=>H id=none/\oo H (id+1) n
theorem UB(id:Nat):oo H id 1=(H id=none/\True):=rfl
theorem UC(id:Nat):oo H id 2=(H id=none/\H (id+1)=none/\True):=rfl
theorem UD(id:Nat):oo H id 3=(H id=none/\H (id+1)=none/\H (id+1+1)=none/\True):=rfl
theorem UE(id:Nat):oo H id 4=(H id=none/\H (id+1)=none/\H (id+1+1)=none/\H (id+1+1+1)=none/\True):=rfl
theorem Fw:∀ (n id:Nat),oo H id n->∀i,id<=i->i<id+n->H i=none
 |0,id,_,i,a,b=>by omega
 |n+1,id,h,i,a,b=>by
  by_cases e:i=id
  ·rw[e];exact h.1
  ·exact Fw n (id+1) h.2 i (by omega) (by omega)
section
variable{o:Oper}{W:Env->az->Prop}{k:FuncId}{ps:List PV}{b:Bool}
theorem UF(a:lp o (ev an) H=some (k,ps,b)):∃fe,dL o (ev an)=some (k,fe)/\eG (ia H) fe=some (ps,b):=by
 unfold lp at a;cases c:dL o (ev an) with
 |none=>rw[c] at a;cases a
 |some r =>
  obtain⟨e,fe⟩:=r;rw[c] at a;simp only[] at a;cases hl:eG (ia H) fe with
  |none=>rw[hl] at a;cases a
  |some q=>obtain⟨f,d⟩:=q;rw[hl] at a;simp only[cG,iU] at a;obtain⟨rfl,rfl,rfl⟩:=a;exact⟨fe,rfl,hl⟩
theorem UG(ids:List Nat)(id:Nat){Q:RV->Prop}(c:bw P k ps Q)(f:lp o (ev an) (eH ids H)=some (k,ps,b))
  (e:∀r,Q r->(b=true->r.flat=true)/\oo (eH ids H) id ((dz id r).2-id)/\W (cW an o.dst (dz id r).1) (iO id (eH ids H) r)):j6 P o W an H:=by
 obtain⟨fe,a,d⟩:=UF f;refine .inl (.inr (.inr ⟨ids,.inl ⟨k,fe,ps,b,Q,id,a,d,c,λr h=>?_⟩⟩));obtain⟨j,l,m⟩:=e r h;exact⟨j,λi g n=>Fw _ id l i g (by omega),m⟩
theorem w5(id:Nat){r:RV}(c:bw P k ps λx=>x=r)(e:lp o (ev an) H=some (k,ps,b))(d:b=true->r.flat=true)
  (f:oo H id ((dz id r).2-id)) (a:W (cW an o.dst (dz id r).1) (iO id H r)):j6 P o W an H :=
 UG [] id c e λx g=>by subst g;exact⟨d,f,a⟩
theorem Jk(ids:List Nat){id v:Nat}{e:TypeId}{sz:Nat}{es:List (List PV)}{fe:List AV}{Q:AV->Option Chunk->Prop}(c:kZ P k v e sz es ps Q)(l:dL o (ev an)=some (k,.row id v :: fe))(i:eH ids H id=some (.row v e sz es))
  (m:eG (ia (vF (eH ids H) id)) fe=some (ps,b))
  (j:∀a c,Q a c->∃h f g es' d,c=some (.row h f g es')/\CS id a=some d/\(b=true->(es'.all λx=>x.all isVal)=true/\(match d with | .p x=>x.scalar|_=>true)=true)/\W (cW an o.dst d) (bn (eH ids H) id (.row h f g es'))):j6 P o W an H :=
 .inl (.inr (.inr ⟨ids,.inr ⟨k,id,v,e,sz,es,fe,ps,b,Q,l,i,m,c,j⟩⟩))
theorem De{id v:Nat}{e:TypeId}{sz:Nat}{es es':List (List PV)}{fe:List AV}(c:kZ P k v e sz es ps λa c=>a = .dY []/\c=some (.row v e sz es'))(j:dL o (ev an)=some (k,.row id v :: fe))(g:H id=some (.row v e sz es))
  (m:eG (ia (vF H id)) fe=some (ps,b)) (l:b=true->(es'.all λx=>x.all isVal)=true) (i:W (cW an o.dst (.dY [])) (bn H id (.row v e sz es'))):j6 P o W an H :=
 Jk [] c j g m λa c ⟨d,f⟩=>by subst d f;exact⟨v,e,sz,es',.dY [],rfl,rfl,λh=>⟨l h,rfl⟩,i⟩
theorem xl{r:RV} : false=true->r.flat=true:=λh=>by cases h
theorem Df{b:Bool}{r:RV}(h:r.flat=true):b=true->r.flat=true:=λ_=>h
end
def Fx(f:AV)(fe:List AV):Option (FuncId×List AV):=match f with
 | .p (.iT (.func k) a cs)=>some (k,a.map AV.p++fe++cs.map AV.p)
 | .iT (.func k) a cs=>some (k,a++fe++cs)
 |_=>none
theorem bw.B2{f:FuncId}{args:List PV}{e:TypeId}{sz:Nat}{es:List (List PV)}(h:bw P f args λr=>r = .row e sz es):aS P f args λx=>x = .aV es:=h.CR.mono λx a=>by rw[a];simp only[RV.pv]
def Fy:Option AV->AV
 |some a=>a
 |none=>.dead
theorem UH(fe:List AV)(t:Nat):Ao fe t=Fy fe[t]?:=by unfold Ao Fy;cases fe[t]?<;>rfl
theorem UI(a:AV):Fy (some a)=a:=rfl
def Fz(H:az)(Q:AV->Option Chunk->Prop)(a:Option AV):Prop:=match a with
 |some a=>Q a (H 1000000)
 |none=>False
theorem UJ(a:List ResultVar)(Q:AV->Option Chunk->Prop):EN P a Q .normal an H=Fz H Q (pS P an H a):=rfl
theorem UK(a:List ResultVar)(Q:AV->Option Chunk->Prop):EN P a Q .ret an H=Fz H Q (pS P an H a):=rfl
theorem UL(a:AV)(Q:AV->Option Chunk->Prop):Fz H Q (some a)=Q a (H 1000000):=rfl
theorem UM:pS P an H []=some (.dY []):=rfl
theorem UN(d:Option Tmp)(t:TypeId)(pos:String)(af:Array Edge)(g:Option (Nat×Bool))(f:Operand)(xs:Array Operand)(c:Array TypeId)(ρ:Operand->AV) :
  dL ⟨d,.call ⟨.value f,xs,c⟩,t,pos,af,g⟩ ρ=Fx (ρ f) (xs.toList.map ρ):=by
 unfold dL Fx;simp only[];generalize ρ f=v;cases v with
 |p x=>cases x with
  |iT a b cs=>cases a<;>rfl
  |_=>rfl
 |iT a b cs=>cases a<;>rfl
 |_=>rfl
theorem UO(k:FuncId)(a cs:List PV)(fe:List AV):Fx (.p (.iT (.func k) a cs)) fe=some (k,a.map AV.p++fe++cs.map AV.p):=rfl
theorem VR.uu{I:Mem}{v:Value}(h:VR I v (.aV [])):∃a cap,v = .slice a 0 cap/\VR I v (.val (.slice a 0 cap)):=by
 cases h with
 |aV a n cap _ us sz b=>simp only[List.length_nil] at b;subst b;exact⟨a,cap,rfl,.val _ rfl⟩
theorem bw.uu{f:FuncId}{rest:List PV}{Q:RV->Prop}(a:gP P f=true)(h:∀d cap,bw P f (.val (.slice d 0 cap) :: rest) Q):bw P f (.aV [] :: rest) Q:=by
 refine⟨a,λI w vs i b=>?_⟩;cases vs with
 |nil=>have:=b.1;simp at this
 |cons v vs =>
  obtain⟨d,cap,rfl,g⟩:=(b.2 0 v _ rfl rfl).uu;refine (h d cap).2 I w _ i ⟨by simpa using b.1,λj u c e a=>?_⟩;cases j with
  |zero=>simp at e a;subst e a;exact g
  |succ j=>exact b.2 (j+1) u c e a
theorem aS.uu{f:FuncId}{rest:List PV}{Q:PV->Prop}(a:gP P f=true)(h:∀d cap,aS P f (.val (.slice d 0 cap) :: rest) Q):aS P f (.aV [] :: rest) Q:=by
 refine⟨a,λI w vs i b=>?_⟩;cases vs with
 |nil=>have:=b.1;simp at this
 |cons v vs =>
  obtain⟨d,cap,rfl,g⟩:=(b.2 0 v _ rfl rfl).uu;refine (h d cap).2 I w _ i ⟨by simpa using b.1,λj u c e a=>?_⟩;cases j with
  |zero=>simp at e a;subst e a;exact g
  |succ j=>exact b.2 (j+1) u c e a
theorem UP:eH [] H=H:=rfl
theorem UQ(id:Nat)(r:List Nat):eH (id :: r) H=eH r (CT H id):=rfl
def Jl(H:az)(id:Nat)(c:Option Chunk):az:=match c with
 |some (.row v _ _ es)=>bn H id (.shut v es)
 |_=>H
theorem UR(id:Nat):CT H id=Jl H id (H id):=rfl
theorem US(id v:Nat)(e:TypeId)(sz:Nat)(es:List (List PV)):Jl H id (some (.row v e sz es))=bn H id (.shut v es):=rfl
def B3:List AV->Option (Prop×AV)
 | .p (.val (.int k n)) :: r=>u0 k n r
 |_=>none
section
variable(d:Option Tmp)(ty:TypeId)(pos:String)(af:Array Edge)(g:Option (Nat×Bool))(ρ:Operand->AV)
theorem UT(xs:Array Operand)(a:Array TypeId):gi P ⟨d,.call ⟨.builtin .max,xs,a⟩,ty,pos,af,g⟩ ρ H=dh (B3 (xs.toList.map ρ)) H:=by
 have e:oD P ⟨d,.call ⟨.builtin .max,xs,a⟩,ty,pos,af,g⟩ ρ=B3 (xs.toList.map ρ):=by simp only[oD,uX,B3];generalize xs.toList.map ρ=l;split<;>first|rfl|(split<;>simp_all)
 simp only[gi,e,sS,nB,xM,yZ,wU,xR,dh];all_goals(cases B3 (xs.toList.map ρ)<;>rfl)
end
theorem UU(k:IntKind)(n:Int)(r:List AV):B3 (.p (.val (.int k n)) :: r)=u0 k n r:=rfl
theorem UW(k:IntKind)(n:Int):u0 k n []=some (True,.p (.val (.int k n))):=rfl
theorem UX(k a:IntKind)(n m:Int)(r:List AV):u0 k n (.p (.val (.int a m)) :: r)=u0 k (max n m) r:=rfl
theorem UY(xs:Array Operand)(a:Array TypeId):isApp (.call ⟨.builtin .max,xs,a⟩)=false:=rfl
attribute [go_sem] UT UU UW UX UY
theorem UZ:pL []=[]:=rfl
theorem U0(k id v:Nat)(r:List (Nat×AV)):pL ((k,.row id v) :: r)=id :: pL r:=rfl
theorem U1(k:Nat)(cs:List AV)(r:List (Nat×AV)):pL ((k,.agg cs) :: r)=ur cs++pL r:=rfl
theorem U2:ur []=[]:=rfl
theorem U3(id v:Nat)(r:List AV):ur (.row id v :: r)=id :: ur r:=rfl
theorem U4(x:PV)(r:List AV):ur (.p x :: r)=ur r:=rfl
def FA(c:Option Chunk)(id a:Nat):AV:=match c with
 |some (.shut v es)=>if v=a then .p (.aV es) else .row id a
 |_=>.row id a
theorem U5(id a:Nat):yH H (.row id a)=FA (H id) id a:=rfl
theorem U6(id a:Nat):v8 H (.row id a)=FA (H id) id a:=rfl
theorem U7(v:Nat)(es:List (List PV))(id a:Nat):FA (some (.shut v es)) id a=if v=a then .p (.aV es) else .row id a:=rfl
theorem U8(x:PV):v8 H (.p x) = .p x:=rfl
theorem U9(cs:List AV):yH H (.agg cs) = .agg (cs.map (v8 H)):=rfl
theorem FB(n:Int):(n<=n)=True:=eq_true (Int.le_refl n)
attribute [go_sem] UZ U0 U1 U2 U3 U4 U5 U6 U7 U8 U9
theorem j8{o:Oper}{W:Env->az->Prop}(tI:Env)(H2:az){pre:Prop}{v:AV}{a:az}(hw:dw an H tI H2)(d:gi P o (ev tI) H2=some (pre,v,a))(c:pre)(b:W (cW tI o.dst v) a):j6 P o W an H :=
 .inr (.inl ⟨tI,H2,hw,.inl ⟨pre,v,a,d,c,b⟩⟩)
theorem Dg{an:Env}{H:az}(id v:Nat)(e:TypeId)(sz:Nat)(es:List (List PV))(a:List Nat)(b:H id=some (.row v e sz es))(f:holds an id v a)(c:a.Nodup):dw an H (AL (.p (.aV es)) a an) (bn H id (.shut v es)):=λC I L g w d=>⟨_,L,EI (es:=es) (by simp[bn]) a _ c (Fr.shut C I L w b an g d) f⟩
theorem uJ{o:Oper}{W:Env->az->Prop}{tI:Env}{H2:az}(hw:dw an H tI H2)(h:Bf P o W tI H2\/Bg P o W tI H2\/y3 P o W tI H2):j6 P o W an H:=.inr (.inl ⟨tI,H2,hw,.inr h⟩)
theorem Va(t:TypeId)(i v:Nat)(lo b a:Option AV):tF P t (.row i v) lo b a=none:=by cases a<;>rfl
attribute [go_sem] Va Og Oh Oi Oj
theorem w6{o:Oper}{W:Env->az->Prop}{k:FuncId}{ps:List PV}{b:Bool}{id v:Nat}{e:TypeId}{sz:Nat}{es es':List (List PV)}{fe:List AV}(c:kZ P k v e sz es ps λa c=>a = .row 1000000 (v+1)/\c=some (.row (v+1) e sz es'))
  (j:dL o (ev an)=some (k,.row id v :: fe)) (g:H id=some (.row v e sz es))
  (m:eG (ia (vF H id)) fe=some (ps,b)) (l:b=true->(es'.all λx=>x.all isVal)=true) (i:W (cW an o.dst (.row id (v+1))) (bn H id (.row (v+1) e sz es'))):j6 P o W an H :=
 Jk [] c j g m λa c ⟨d,f⟩=>by subst d f;exact⟨v+1,e,sz,es',.row id (v+1),rfl,rfl,λh=>⟨l h,rfl⟩,i⟩
attribute [go_sem] UH UI UJ UK UL UM UN UO TZ Fp OM ON Ua T0 T1 T2 T3 T4 T5 T6 T8 T7 T9 Ub Uc Ud Ue Uf Ug Uh Ui Uj Uk Ul Um Un Uo Up Uq Ur Us Ut Uu Uv Uw Ux Uy Uz UA UB UC UD UE UP UQ UR US Nat.add_sub_cancel_left Nat.sub_self
end Go.cv
namespace Go.Proofs.YtnnpmiiegnedeaaGreat.Ty
open Go Go.cv
theorem mixed:Tryz.prog.follows .mixedOrders=true:=by kernel_rfl
@[go_sem] theorem Vb:xI pw 3=some 8/\bu pw 3=some 1/\gd pw 3=some false/\cN pw 3=some [.int .i64 0]/\BI pw 3=some .i64/\bu pw 4=some 1/\gd pw 4=some false/\bu pw 5=some 1/\gd pw 5=some false/\(Program.underlying pw 5).isSome=true/\bu pw 9=some 1/\gd pw 9=some false/\cN pw 9=some [.string ⟨#[]⟩]/\zj pw 9=true/\bu pw 22=some 1/\gd pw 22=some false/\cT pw 22=some 132/\isSlice pw 22=true/\bu pw 23=some 1/\gd pw 23=some false/\cT pw 23=some 148/\isSlice pw 23=true/\bu pw 25=some 2/\gd pw 25=some true/\cN pw 25=some [.slice none 0 0,.slice none 0 0]/\fh pw 25=some [(0,1),(1,1)]/\bM pw 25 0=some (0,1)/\bM pw 25 1=some (1,1)/\bu pw 27=some 7/\gd pw 27=some true/\bM pw 27 0=some (0,1)/\bM pw 27 1=some (1,1)/\bM pw 27 2=some (2,2)/\bM pw 27 3=some (4,1)/\bM pw 27 4=some (5,1)/\bM pw 27 5=some (6,1)/\bu pw 28=some 1/\gd pw 28=some false/\cT pw 28=some 135/\isSlice pw 28=true:=by and_intros<;>kernel_rfl
@[go_sem] theorem aJ4:dA pw 28 28=some (135,4,56)/\bu pw 29=some 1/\gd pw 29=some false/\cT pw 29=some 140/\isSlice pw 29=true/\dA pw 29 29=some (140,7,64)/\bu pw 31=some 2/\gd pw 31=some true/\cN pw 31=some [.slice none 0 0,.slice none 0 0]/\fh pw 31=some [(0,1),(1,1)]/\bM pw 31 0=some (0,1)/\bM pw 31 1=some (1,1)/\bu pw 32=some 1/\gd pw 32=some false/\cN pw 32=some [.slice none 0 0]/\cT pw 32=some 3/\isSlice pw 32=true:=by and_intros<;>kernel_rfl
@[go_sem] theorem Vc:dA pw 32 32=some (3,1,8):=by kernel_rfl
@[go_sem] theorem aIl:bu pw 33=some 1/\gd pw 33=some false/\cT pw 33=some 150/\isSlice pw 33=true/\dA pw 33 33=some (150,3,24)/\bu pw 35=some 2/\gd pw 35=some true/\cN pw 35=some [.slice none 0 0,.slice none 0 0]/\fh pw 35=some [(0,1),(1,1)]/\bM pw 35 0=some (0,1)/\bM pw 35 1=some (1,1)/\bu pw 36=some 1/\gd pw 36=some false/\cT pw 36=some 32/\isSlice pw 36=true/\dA pw 36 36=some (32,1,24)/\bu pw 38=some 3/\gd pw 38=some true/\cN pw 38=some [.slice none 0 0,.slice none 0 0,.slice none 0 0]/\fh pw 38=some [(0,2),(2,1)]/\bM pw 38 0=some (0,2)/\bM pw 38 1=some (2,1)/\bu pw 40=some 6/\gd pw 40=some true/\cN pw 40=some [.slice none 0 0,.slice none 0 0,.slice none 0 0,.slice none 0 0,.slice none 0 0,.int .i64 0]/\fh pw 40=some [(0,3),(3,1),(4,1),(5,1)]/\bM pw 40 0=some (0,3)/\bM pw 40 1=some (3,1)/\bM pw 40 2=some (4,1)/\bM pw 40 3=some (5,1)/\bu pw 41=some 1/\gd pw 41=some false/\cT pw 41=some 86/\isSlice pw 41=true/\dA pw 41 41=some (86,3,40)/\bu pw 42=some 1/\gd pw 42=some false/\cT pw 42=some 88/\isSlice pw 42=true/\dA pw 42 42=some (88,4,32):=by and_intros<;>kernel_rfl
@[go_sem] theorem aID:bu pw 43=some 1/\gd pw 43=some false/\cT pw 43=some 91/\isSlice pw 43=true/\dA pw 43 43=some (91,4,32)/\bu pw 44=some 2/\gd pw 44=some true/\cN pw 44=some [.int .i64 0,.int .i64 0]/\wQ pw 44=some (2,3)/\fh pw 44=some [(0,1),(1,1)]/\bu pw 46=some 7/\gd pw 46=some true/\cN pw 46=some [.slice none 0 0,.slice none 0 0,.slice none 0 0,.slice none 0 0,.slice none 0 0,.int .i64 0,.int .i64 0]/\fh pw 46=some [(0,1),(1,1),(2,1),(3,1),(4,1),(5,2)]/\bM pw 46 0=some (0,1)/\bM pw 46 1=some (1,1)/\bM pw 46 2=some (2,1)/\bM pw 46 3=some (3,1)/\bM pw 46 4=some (4,1)/\bM pw 46 5=some (5,2)/\bu pw 48=some 20/\gd pw 48=some true/\cN pw 48=some [.slice none 0 0,.slice none 0 0,.slice none 0 0,.slice none 0 0,.slice none 0 0,.int .i64 0,.slice none 0 0,.slice none 0 0,.slice none 0 0,.slice none 0 0,.slice none 0 0,.int .i64 0,.int .i64 0,.slice none 0 0,.slice none 0 0,.slice none 0 0,.slice none 0 0,.slice none 0 0,.int .i64 0,.int .i64 0]/\fh pw 48=some [(0,6),(6,7),(13,7)]/\bM pw 48 0=some (0,6)/\bM pw 48 1=some (6,7)/\bM pw 48 2=some (13,7)/\bu pw 52=some 1/\gd pw 52=some false/\cN pw 52=some [.slice none 0 0]/\cT pw 52=some 57/\isSlice pw 52=true:=by and_intros<;>kernel_rfl
@[go_sem] theorem Vd:dA pw 52 52=some (57,3,24):=by kernel_rfl
@[go_sem] theorem aIQ:bu pw 57=some 3/\gd pw 57=some true/\cN pw 57=some [.int .i64 0,.int .i64 0,.int .i64 0]/\fh pw 57=some [(0,1),(1,1),(2,1)]/\bM pw 57 0=some (0,1)/\bu pw 62=some 2/\gd pw 62=some true/\cN pw 62=some [.slice none 0 0,.slice none 0 0]/\fh pw 62=some [(0,1),(1,1)]/\bM pw 62 1=some (1,1)/\bu pw 86=some 3/\gd pw 86=some true/\cN pw 86=some [.int .i64 0,.int .i64 0,.slice none 0 0]/\fh pw 86=some [(0,1),(1,1),(2,1)]/\bM pw 86 0=some (0,1)/\bM pw 86 1=some (1,1)/\bM pw 86 2=some (2,1)/\bu pw 88=some 4/\gd pw 88=some true/\cN pw 88=some [.int .i64 0,.int .i64 0,.int .i64 0,.int .i64 0]/\fh pw 88=some [(0,1),(1,1),(2,1),(3,1)]/\bM pw 88 0=some (0,1)/\bM pw 88 1=some (1,1)/\bM pw 88 2=some (2,1)/\bM pw 88 3=some (3,1)/\bu pw 91=some 4/\gd pw 91=some true/\cN pw 91=some [.int .i64 0,.int .i64 0,.int .i64 0,.int .i64 0]/\fh pw 91=some [(0,1),(1,1),(2,1),(3,1)]/\bM pw 91 0=some (0,1)/\bM pw 91 1=some (1,1)/\bM pw 91 2=some (2,1)/\bM pw 91 3=some (3,1)/\bu pw 132=some 2/\gd pw 132=some true/\cN pw 132=some [.int .u8 0,.int .u8 0]/\wQ pw 132=some (2,5)/\fh pw 132=some [(0,1),(1,1)]/\bu pw 133=some 1/\gd pw 133=some false:=by and_intros<;>kernel_rfl
@[go_sem] theorem aG3:cT pw 133=some 138/\isSlice pw 133=true/\dA pw 133 133=some (138,4,56)/\bu pw 135=some 4/\gd pw 135=some true/\cN pw 135=some [.string ⟨#[]⟩,.int .i64 0,.bool false,.slice none 0 0]/\fh pw 135=some [(0,1),(1,1),(2,1),(3,1)]/\bM pw 135 0=some (0,1)/\bM pw 135 1=some (1,1)/\bM pw 135 2=some (2,1)/\bM pw 135 3=some (3,1)/\bu pw 136=some 1/\gd pw 136=some false/\cT pw 136=some 9/\isSlice pw 136=true/\dA pw 136 136=some (9,1,16)/\bu pw 138=some 4/\gd pw 138=some true/\cN pw 138=some [.string ⟨#[]⟩,.int .i64 0,.int .i64 0,.slice none 0 0]/\fh pw 138=some [(0,1),(1,1),(2,1),(3,1)]/\bM pw 138 0=some (0,1)/\bM pw 138 1=some (1,1)/\bM pw 138 2=some (2,1)/\bM pw 138 3=some (3,1)/\bu pw 140=some 7/\gd pw 140=some true/\cN pw 140=some [.string ⟨#[]⟩,.int .i64 0,.int .i64 0,.int .i64 0,.int .i64 0,.int .i64 0,.int .i64 0]/\fh pw 140=some [(0,1),(1,1),(2,1),(3,1),(4,1),(5,1),(6,1)]/\bM pw 140 0=some (0,1)/\bM pw 140 1=some (1,1)/\bM pw 140 2=some (2,1)/\bM pw 140 3=some (3,1)/\bM pw 140 4=some (4,1)/\bM pw 140 5=some (5,1)/\bM pw 140 6=some (6,1)/\bu pw 148=some 3/\gd pw 148=some true/\wQ pw 148=some (3,5)/\bu pw 150=some 3/\gd pw 150=some true:=by and_intros<;>kernel_rfl
@[go_sem] theorem aHg:cN pw 150=some [.int .i64 0,.int .i64 0,.int .i64 0]/\fh pw 150=some [(0,1),(1,1),(2,1)]/\bM pw 150 0=some (0,1)/\bM pw 150 1=some (1,1)/\bM pw 150 2=some (2,1)/\cT pw 158=some 46/\isSlice pw 158=true/\bu pw 161=some 14/\gd pw 161=some true/\cN pw 161=some [.slice none 0 0,.slice none 0 0,.slice none 0 0,.slice none 0 0,.slice none 0 0,.int .i64 0,.int .i64 0,.slice none 0 0,.slice none 0 0,.slice none 0 0,.slice none 0 0,.slice none 0 0,.int .i64 0,.int .i64 0]/\wQ pw 161=some (2,46)/\fh pw 161=some [(0,7),(7,7)]/\cT pw 162=some 161/\isSlice pw 162=true/\bu pw 167=some 1/\gd pw 167=some false/\cN pw 167=some [.slice none 0 0]/\cT pw 167=some 170/\isSlice pw 167=true:=by and_intros<;>kernel_rfl
@[go_sem] theorem Ve:dA pw 167 167=some (170,3,24):=by kernel_rfl
@[go_sem] theorem aHr:bu pw 170=some 3/\gd pw 170=some true/\cN pw 170=some [.int .i64 0,.int .i64 0,.bool false]/\fh pw 170=some [(0,1),(1,1),(2,1)]/\bM pw 170 0=some (0,1)/\bM pw 170 1=some (1,1)/\cT pw 213=some 216/\isSlice pw 213=true/\dA pw 213 213=some (216,3,24)/\bu pw 216=some 3/\gd pw 216=some true/\cN pw 216=some [.int .i64 0,.int .i64 0,.bool false]/\fh pw 216=some [(0,1),(1,1),(2,1)]/\bM pw 216 0=some (0,1)/\bM pw 216 1=some (1,1)/\cT pw 222=some 52/\isSlice pw 222=true/\cT pw 235=some 167/\isSlice pw 235=true/\cT pw 237=some 241/\isSlice pw 237=true/\dA pw 237 237=some (241,4,32)/\bu pw 241=some 4/\gd pw 241=some true/\cN pw 241=some [.int .i64 0,.int .i64 0,.int .i64 0,.bool false]/\fh pw 241=some [(0,1),(1,1),(2,1),(3,1)]/\bM pw 241 0=some (0,1)/\bM pw 241 1=some (1,1)/\bM pw 241 3=some (3,1)/\bu pw 267=some 2/\gd pw 267=some true/\cN pw 267=some [.slice none 0 0,.slice none 0 0]/\fh pw 267=some [(0,1),(1,1)]/\bM pw 267 0=some (0,1)/\bM pw 267 1=some (1,1)/\bu pw 281=some 2/\cN pw 281=some [.slice none 0 0,.slice none 0 0]/\fh pw 281=some [(0,1),(1,1)]/\bM pw 281 0=some (0,1)/\bM pw 281 1=some (1,1):=by and_intros<;>kernel_rfl
@[go_sem] theorem aHJ:bu pw 320=some 3/\gd pw 320=some true/\cN pw 320=some [.int .i64 0,.string ⟨#[]⟩,.int .i64 0]/\fh pw 320=some [(0,1),(1,1),(2,1)]/\bM pw 320 0=some (0,1)/\bM pw 320 1=some (1,1)/\bu pw 331=some 1/\gd pw 331=some false/\vS pw 57=some [.i,.i,.i]/\vS pw 88=some [.i,.i,.i,.i]/\vS pw 170=some [.i,.i,.b]/\vS pw 216=some [.i,.i,.b]:=by and_intros<;>kernel_rfl
end Go.Proofs.YtnnpmiiegnedeaaGreat.Ty
namespace Go.cv
theorem Vf{α a:Type}(f:α->a)(l:List α)(n:Nat):(l.map f).take n=(l.take n).map f:=(List.map_take ..).symm
theorem Vg{α a:Type}(f:α->a)(l:List α)(n:Nat):(l.map f).drop n=(l.drop n).map f:=(List.map_drop ..).symm
attribute [go_sem] Nat.reduceEqDiff Nat.reduceLT Nat.reduceLeDiff Nat.reduceMul Nat.reduceAdd Nat.reduceBEq Nat.reduceSub Int.reduceToNat reduceIte reduceCtorEq
attribute [go_sem] Vf Vg Nat.le_refl Nat.not_lt_zero Nat.zero_le Nat.zero_lt_succ decide_true decide_false Bool.not_not exists_eq'
end Go.cv
namespace Go.Proofs.YtnnpmiiegnedeaaGreat
open Go.cv
def encI(n:Int):List PV:=[.val (.int .i64 n)]
def encS(s:ByteArray):List PV:=[.val (.string s)]
def br(l:List Int):PV:=.aV (l.map encI)
def cZ(l:List ByteArray):PV:=.aV (l.map encS)
structure Attr where
 name:ByteArray
 low:Int
 high:Int
 names:List ByteArray
structure ic where
 name:ByteArray
 parent:Int
 abs:Bool
 attrs:List Attr
structure mI where
 name:ByteArray
 src:Int
 dst:Int
 nI:Int
 j9:Int
 tq:Int
 og:Int
structure Types where
 nodes:List ic
 ak:List mI
structure aKK where
 nodes:List Int
 ak:List Int
structure Edge where
 type:Int
 src:Int
 dst:Int
structure eU where
 nodes:List Int
 ak:List Edge
structure Host where
 graph:eU
 values:List (List Int)
structure Vh where
 a:Int
 b:Int
instance:Inhabited ByteArray:=⟨.empty⟩
instance:Inhabited Attr:=⟨⟨.empty,0,0,[]⟩⟩
instance:Inhabited ic:=⟨⟨.empty,0,false,[]⟩⟩
instance:Inhabited mI:=⟨⟨.empty,0,0,0,0,0,0⟩⟩
instance:Inhabited Edge:=⟨⟨0,0,0⟩⟩
instance:Inhabited Vh:=⟨⟨0,0⟩⟩
def aU(a:Attr):List PV:=[.val (.string a.name),.val (.int .i64 a.low),.val (.int .i64 a.high),cZ a.names]
def aJ(n:ic):List PV:=[.val (.string n.name),.val (.int .i64 n.parent),.val (.bool n.abs),.aV (n.attrs.map aU)]
def aL(e:mI):List PV:=[.val (.string e.name),.val (.int .i64 e.src),.val (.int .i64 e.dst),.val (.int .i64 e.nI),.val (.int .i64 e.j9),.val (.int .i64 e.tq),.val (.int .i64 e.og)]
def aY(e:Edge):List PV:=[.val (.int .i64 e.type),.val (.int .i64 e.src),.val (.int .i64 e.dst)]
def bI(l:List Int):List PV:=[br l]
def aD(t:Types):PV:=.agg [.aV (t.nodes.map aJ),.aV (t.ak.map aL)]
def fA(g:eU):PV:=.agg [br g.nodes,.aV (g.ak.map aY)]
def cO(h:Host):PV:=.agg [br h.graph.nodes,.aV (h.graph.ak.map aY),.aV (h.values.map bI)]
theorem getD_map{α:Type} [Inhabited α](f:α->List PV){l:List α}{n:Nat}(h:n<l.length):(l.map f).getD n []=f (l.getD n default):=by simp[h]
theorem oG{α:Type} [Inhabited α]{l:List α}{n:Nat}(h:n<l.length):l.take (n+1)=l.take n++[l.getD n default]:=by rw[List.take_add_one];simp[h]
theorem bz{k n:Nat}(h:k<n)(a:n<=4611686018427387904):i64.wrap ((k:Int)+1)=((k+1:Nat):Int):=by rw[IntWalk.i64_in _ (by omega)];omega
section
variable{P:Program}{N:Nat}{ai:List Nat}{ops:Array Oper}{K:Env->az->Prop}{an:Env}{H:az}
theorem EX(x:PV):ia H (.p x)=some (x,false):=rfl
theorem kg(ps:List PV):eG (ia H) (ps.map AV.p)=some (ps,false):=by
 induction ps with
 |nil=>rfl
 |cons a r b=>simp[eG,EX,b]
theorem ki(e d:List AV):eG (ia H) (e++d)=(match eG (ia H) e,eG (ia H) d with|some (xs,b),some (f,c)=>some (xs++f,b||c)|_,_=>none):=by
 induction e with
 |nil =>
  simp only[List.nil_append,eG];cases eG (ia H) d with
  |none=>rfl
  |some r=>obtain⟨f,c⟩:=r;simp
 |cons a r g =>
  simp only[List.cons_append,eG,g];cases ia H a with
  |none=>rfl
  |some q =>
   cases eG (ia H) r with
   |none=>rfl
   |some r1 =>
    cases eG (ia H) d with
    |none=>rfl
    |some r2=>simp[Bool.or_assoc]
theorem aW{b:Bool}{x y:Code}{K:qP}(a:b=true->y4 P N ai (.p (.val (.bool false))) x y K an H)(c:b=false->y4 P N ai (.p (.val (.bool true))) x y K an H):y4 P N ai (.p (.val (.bool !b))) x y K an H:=by
 cases b
 ·exact c rfl
 ·exact a rfl
theorem bR{b:Bool}{o:Oper}{rest:List Oper}(a:b=true->we P N ai ops (some true) o rest K an H)(c:b=false->we P N ai ops (some false) o rest K an H):we P N ai ops (some b) o rest K an H:=by
 cases b
 ·exact c rfl
 ·exact a rfl
theorem bT{b:Bool}{o:Oper}{rest:List Oper}(a:b=true->we P N ai ops (some false) o rest K an H)(c:b=false->we P N ai ops (some true) o rest K an H):we P N ai ops (some !b) o rest K an H:=by
 cases b
 ·exact c rfl
 ·exact a rfl
theorem pY{b:Bool}{c:oU}{o:Oper}{rest:List (Oper×oU)}(a:b=true->wC P N ai ops (some false) c o rest K an H)(d:b=false->wC P N ai ops (some true) c o rest K an H):wC P N ai ops (some !b) c o rest K an H:=by
 cases b
 ·exact d rfl
 ·exact a rfl
theorem oW{b:Bool}{c:oU}{o:Oper}{rest:List (Oper×oU)}(a:b=true->wC P N ai ops (some true) c o rest K an H)(d:b=false->wC P N ai ops (some false) c o rest K an H):wC P N ai ops (some b) c o rest K an H:=by
 cases b
 ·exact d rfl
 ·exact a rfl
end
end Go.Proofs.YtnnpmiiegnedeaaGreat
namespace Go.cv
theorem aFo{P:Program}{f:FuncId}{a:Func}{c:Code}{args:List PV}{Q:PV->Prop}(ai:List Nat)(e:P.funcs[f]? = some a)(h:cw P a.ntmps ai c (CW P a.results.toList Q) (iI args) cu)(g:P.follows .mixedOrders=true:=by exact Ty.mixed)(b:a.body=some c:=by rfl)(d:gP P f=true:=by kernel_rfl)(i:args.length<=a.ntmps:=by first|decide|simp):aS P f args Q:=Iu ai g e b d i h
theorem aFp{P:Program}{f:FuncId}{a:Func}{c:Code}{args:List PV}{Q:RV->Prop}(ai:List Nat)(e:P.funcs[f]? = some a)(h:cw P a.ntmps ai c (CX P a.results.toList Q) (iI args) cu)(g:P.follows .mixedOrders=true:=by exact Ty.mixed)(b:a.body=some c:=by rfl)(d:gP P f=true:=by kernel_rfl)(i:args.length<=a.ntmps:=by first|decide|simp):bw P f args Q:=Ix ai g e b d i h
theorem aR{P:Program}{f:FuncId}{a:Func}{c:Code}{args:List PV}{Q:PV->Prop}{n:Nat}{b:Array ResultVar}(ai:List Nat)(g:P.funcs[f]? = some a)(k:a.ntmps=n)(l:a.results=b)(h:cw P n ai c (CW P b.toList Q) (iI args) cu)(i:P.follows .mixedOrders=true:=by exact Ty.mixed)(d:a.body=some c:=by rfl)(e:gP P f=true:=by kernel_rfl)(j:args.length<=a.ntmps:=by first|decide|simp):aS P f args Q:=Iu ai i g d e j (by rw[k,l];exact h)
theorem bF{P:Program}{f:FuncId}{a:Func}{c:Code}{args:List PV}{Q:RV->Prop}{n:Nat}{b:Array ResultVar}(ai:List Nat)(g:P.funcs[f]? = some a)(k:a.ntmps=n)(l:a.results=b)(h:cw P n ai c (CX P b.toList Q) (iI args) cu)(i:P.follows .mixedOrders=true:=by exact Ty.mixed)(d:a.body=some c:=by rfl)(e:gP P f=true:=by kernel_rfl)(j:args.length<=a.ntmps:=by first|decide|simp):bw P f args Q:=Ix ai i g d e j (by rw[k,l];exact h)
end Go.cv
namespace Go.Proofs.YtnnpmiiegnedeaaGreat
open Go.cv
theorem xC(n a b:Int):aS pw 89 [.val (.int .i64 n),.val (.int .i64 a),.val (.int .i64 b)] (λr=>r = .val (.bool (decide (a<=n)&&decide (n<=b)))):=by refine aR [] func89 ntmps89 results89 ?_;simp only[go_sem];refine bR (λh=>?_) (λh=>?_)<;>simp only[go_sem,h]
theorem Dh(n m:Int):aS pw 278 [.val (.int .i64 n),.val (.int .i64 m)] (λr=>r = .val (.bool (decide (0<=n)&&decide (n<=m)))):=by refine aR [] func278 ntmps278 results278 ?_;simp only[go_sem];refine bR (λh=>?_) (λh=>?_)<;>simp only[go_sem,h]
def wD(a b:Int):Bool:=(decide (0<=a)&&decide (a<=40))&&(decide (b = -1)||(decide (a<=b)&&decide (b<=40)))
theorem Jm(a b:Int):aS pw 204 [.val (.int .i64 a),.val (.int .i64 b)] (λr=>r = .val (.bool (wD a b))):=by
 unfold wD;refine aR [] func204 ntmps204 results204 ?_;simp only[go_sem]
 repeat' first|done|(refine bT (λh=>?_) (λh=>?_)<;>try simp only[go_sem,h])|(refine bR (λh=>?_) (λh=>?_)<;>try simp only[go_sem,h])|(refine aW (λh=>?_) (λh=>?_)<;>try simp only[go_sem,h])|(refine aK (λh=>?_) (λh=>?_)<;>try simp only[go_sem,h])
theorem Jn(a b:Int):aS pw 157 [.val (.int .i64 a),.val (.int .i64 b)] (λr=>r = .val (.bool (wD a b))):=by
 unfold wD;refine aR [] func157 ntmps157 results157 ?_;simp only[go_sem];refine aX (xC a 0 40) (by simp only[go_sem]<;>rfl) (cc rfl) ?_;simp only[go_sem]
 repeat' first|done|(refine bT (λh=>?_) (λh=>?_)<;>try simp only[go_sem,h])|(refine bR (λh=>?_) (λh=>?_)<;>try simp only[go_sem,h])|(refine aW (λh=>?_) (λh=>?_)<;>try simp only[go_sem,h])|(refine aK (λh=>?_) (λh=>?_)<;>try simp only[go_sem,h])
 all_goals
  refine aX (xC b a 40) (by simp only[go_sem]<;>rfl) (cc rfl) ?_;simp only[go_sem, *]
def qS(n:Int):Bool:=(decide (97<=n)&&decide (n<=122))||(decide (65<=n)&&decide (n<=90))
def wE(n:Int):Bool:=decide (48<=n)&&decide (n<=57)
def xW(n:Int):Bool:=(qS n||wE n)||decide (n=95)
theorem Jo(n:Int):aS pw 353 [.val (.int .u8 n)] (λr=>r = .val (.bool (qS n))):=by
 unfold qS;refine aR [] func353 ntmps353 results353 ?_;simp only[go_sem]
 repeat' first|done|(refine bT (λh=>?_) (λh=>?_)<;>try simp only[go_sem,h])|(refine bR (λh=>?_) (λh=>?_)<;>try simp only[go_sem,h])|(refine aW (λh=>?_) (λh=>?_)<;>try simp only[go_sem,h])|(refine aK (λh=>?_) (λh=>?_)<;>try simp only[go_sem,h])
end Go.Proofs.YtnnpmiiegnedeaaGreat
namespace Go.cv
theorem bY{e b:Env}{H a:az}(c:BU b e:=by repeat (first|exact RG _|refine RH ?_ (by first|rfl|simp[cK])))(d:HSub a H:=by repeat (first|exact RI _|refine RJ ?_ (by first|rfl|simp[bn])))(f:Bj b a:=by repeat (first|exact RK _|refine RL ?_ (by simp[pT,nE,bn])))(g:pN a a:=by repeat (first|exact RM _|refine RO ?_|refine RP ?_|refine Vi ?_|refine Vj ?_|refine RQ ?_|refine RN ?_ (by simp[pT,nE,bn])))(h:mH H a:=by repeat (first|exact IK _|refine IL (by decide) ?_|refine RR (by simp[bn]) ?_)):dw e H b a:=RS c d f g h
end Go.cv
namespace Go.Proofs.YtnnpmiiegnedeaaGreat
open Go.cv
def idxOf{α:Type}(p:α->Bool)(l:List α):Int:=match l.findIdx? p with
 |some i=>i
 |none=>-1
theorem pZ{α:Type} [Inhabited α]{p:α->Bool}{l:List α}{k:Nat}(a:k<l.length)(b:∀j,j<k->p (l.getD j default)=false)(c:p (l.getD k default)=true):idxOf p l=k:=by
 have:l.findIdx? p=some k:=by
  rw[List.findIdx?_eq_some_iff_getElem];refine⟨a,by simpa[a] using c,λj d=>?_⟩;have:=b j d;have e:j<l.length:=by omega
  simpa[e] using this
 simp[idxOf,this]
theorem lV{α:Type} [Inhabited α]{p:α->Bool}{l:List α}(b:∀j,j<l.length->p (l.getD j default)=false):idxOf p l = -1:=by
 have:l.findIdx? p=none:=by rw[List.findIdx?_eq_none_iff];intro x c;obtain⟨j,a,rfl⟩:=List.getElem_of_mem c;have:=b j a;simpa[a] using this
 simp[idxOf,this]
theorem lD{α:Type}{p:α->Bool}{l:List α} : decide (0<=idxOf p l)=l.any p:=by
 unfold idxOf;cases h:l.findIdx? p with
 |none =>
  rw[List.findIdx?_eq_none_iff] at h;have:l.any p=false:=by simpa using h
  simp[this]
 |some i=>rw[List.findIdx?_eq_some_iff_getElem] at h;obtain⟨a,h,_⟩:=h;have:l.any p=true:=List.any_eq_true.2 ⟨_,l8 a,h⟩;simp[this]
def pA(cs:List PV):PV:=.agg cs
def pV(cs:List PV):PV:=cs.getD 0 .emp
theorem Vk(p:Attr->Bool)(l:List Attr)(hl:l.length<=1000000)(k:FuncId)(d cs:List PV)(g:∀x∈l,aS pw k (d++[pA (aU x)]++cs) (λr=>r = .val (.bool (p x)))) :
  aS pw 300 [.aV (l.map aU),.iT (.func k) d cs] (λr=>r = .val (.int .i64 (idxOf p l))):=by
 refine aR [] func300 ntmps300 results300 ?_;simp only[go_sem];refine bL (σ:=Nat) (λx=>(cK (cK (cK (cK gv 0 (.p (.aV (l.map aU)))) 1 (.p (.iT (.func k) d cs))) 7 (.p (.val (.int .i64 l.length)))) 8 (.p (.val (.int .i64 x))))) (λx=>cu)
  (λx=>x<=l.length/\∀j,j<x->p (l.getD j default)=false) (λx=>l.length-x) 0 ⟨Nat.zero_le _,λj c=>absurd c (Nat.not_lt_zero j)⟩ bY ?_
 rintro x ⟨m,f⟩;simp only[go_sem];refine aK (λb=>?_) (λb=>?_)
 ·have a:x<l.length:=by simpa using b
  simp only[go_sem,getD_map aU a,a,aU];refine aX (g (l.getD x default) (by simp[a])) (by simp only[go_sem,ki,kg,aU,pA,Bool.or_false,Bool.false_or]<;>rfl) (cc rfl) ?_;simp only[go_sem];refine aK (λe=>?_) (λe=>?_)<;>simp only[go_sem]
  ·exact (pZ a f e).symm
  ·refine bO (x+1) ⟨a,λj c=>?_⟩ (by omega) ?_
   ·rcases Nat.lt_succ_iff_lt_or_eq.1 c with h|h
    ·exact f j h
    ·rw[h];exact e
   ·rw[bz a (by omega)];exact bY
 ·have i:l.length<=x:=by simpa using b
  simp only[go_sem,b];rw[lV λj c=>f j (by omega)]
theorem Vl(p:Attr->Bool)(l:List Attr)(hl:l.length<=1000000)(k:FuncId)(a cs:List PV)(b:∀x∈l,aS pw k (a++[pA (aU x)]++cs) (λr=>r = .val (.bool (p x)))) :
  aS pw 258 [.aV (l.map aU),.iT (.func k) a cs] (λr=>r = .val (.bool (l.any p))):=by
 refine aR [] func258 ntmps258 results258 ?_;simp only[go_sem];refine aX (Vk p l hl k a cs b) (by simp only[go_sem]<;>rfl) (cc rfl) ?_;simp only[go_sem];exact lD
theorem Vm(p:ic->Bool)(l:List ic)(hl:l.length<=1000000)(k:FuncId)(d cs:List PV)(g:∀x∈l,aS pw k (d++[pA (aJ x)]++cs) (λr=>r = .val (.bool (p x)))) :
  aS pw 207 [.aV (l.map aJ),.iT (.func k) d cs] (λr=>r = .val (.int .i64 (idxOf p l))):=by
 refine aR [] func207 ntmps207 results207 ?_;simp only[go_sem];refine bL (σ:=Nat) (λx=>(cK (cK (cK (cK gv 0 (.p (.aV (l.map aJ)))) 1 (.p (.iT (.func k) d cs))) 7 (.p (.val (.int .i64 l.length)))) 8 (.p (.val (.int .i64 x))))) (λx=>cu)
  (λx=>x<=l.length/\∀j,j<x->p (l.getD j default)=false) (λx=>l.length-x) 0 ⟨Nat.zero_le _,λj c=>absurd c (Nat.not_lt_zero j)⟩ bY ?_
 rintro x ⟨m,f⟩;simp only[go_sem];refine aK (λb=>?_) (λb=>?_)
 ·have a:x<l.length:=by simpa using b
  simp only[go_sem,getD_map aJ a,a,aJ];refine aX (g (l.getD x default) (by simp[a])) (by simp only[go_sem,ki,kg,aJ,pA,Bool.or_false,Bool.false_or]<;>rfl) (cc rfl) ?_;simp only[go_sem];refine aK (λe=>?_) (λe=>?_)<;>simp only[go_sem]
  ·exact (pZ a f e).symm
  ·refine bO (x+1) ⟨a,λj c=>?_⟩ (by omega) ?_
   ·rcases Nat.lt_succ_iff_lt_or_eq.1 c with h|h
    ·exact f j h
    ·rw[h];exact e
   ·rw[bz a (by omega)];exact bY
 ·have i:l.length<=x:=by simpa using b
  simp only[go_sem,b];rw[lV λj c=>f j (by omega)]
theorem Vn(p:ic->Bool)(l:List ic)(hl:l.length<=1000000)(k:FuncId)(a cs:List PV)(b:∀x∈l,aS pw k (a++[pA (aJ x)]++cs) (λr=>r = .val (.bool (p x)))) :
  aS pw 151 [.aV (l.map aJ),.iT (.func k) a cs] (λr=>r = .val (.bool (l.any p))):=by
 refine aR [] func151 ntmps151 results151 ?_;simp only[go_sem];refine aX (Vm p l hl k a cs b) (by simp only[go_sem]<;>rfl) (cc rfl) ?_;simp only[go_sem];exact lD
theorem Vo(p:mI->Bool)(l:List mI)(hl:l.length<=1000000)(k:FuncId)(d cs:List PV)(g:∀x∈l,aS pw k (d++[pA (aL x)]++cs) (λr=>r = .val (.bool (p x)))) :
  aS pw 261 [.aV (l.map aL),.iT (.func k) d cs] (λr=>r = .val (.int .i64 (idxOf p l))):=by
 refine aR [] func261 ntmps261 results261 ?_;simp only[go_sem];refine bL (σ:=Nat) (λx=>(cK (cK (cK (cK gv 0 (.p (.aV (l.map aL)))) 1 (.p (.iT (.func k) d cs))) 7 (.p (.val (.int .i64 l.length)))) 8 (.p (.val (.int .i64 x))))) (λx=>cu)
  (λx=>x<=l.length/\∀j,j<x->p (l.getD j default)=false) (λx=>l.length-x) 0 ⟨Nat.zero_le _,λj c=>absurd c (Nat.not_lt_zero j)⟩ bY ?_
 rintro x ⟨m,f⟩;simp only[go_sem];refine aK (λb=>?_) (λb=>?_)
 ·have a:x<l.length:=by simpa using b
  simp only[go_sem,getD_map aL a,a,aL];refine aX (g (l.getD x default) (by simp[a])) (by simp only[go_sem,ki,kg,aL,pA,Bool.or_false,Bool.false_or]<;>rfl) (cc rfl) ?_;simp only[go_sem];refine aK (λe=>?_) (λe=>?_)<;>simp only[go_sem]
  ·exact (pZ a f e).symm
  ·refine bO (x+1) ⟨a,λj c=>?_⟩ (by omega) ?_
   ·rcases Nat.lt_succ_iff_lt_or_eq.1 c with h|h
    ·exact f j h
    ·rw[h];exact e
   ·rw[bz a (by omega)];exact bY
 ·have i:l.length<=x:=by simpa using b
  simp only[go_sem,b];rw[lV λj c=>f j (by omega)]
theorem Vp(p:mI->Bool)(l:List mI)(hl:l.length<=1000000)(k:FuncId)(a cs:List PV)(b:∀x∈l,aS pw k (a++[pA (aL x)]++cs) (λr=>r = .val (.bool (p x)))) :
  aS pw 202 [.aV (l.map aL),.iT (.func k) a cs] (λr=>r = .val (.bool (l.any p))):=by
 refine aR [] func202 ntmps202 results202 ?_;simp only[go_sem];refine aX (Vo p l hl k a cs b) (by simp only[go_sem]<;>rfl) (cc rfl) ?_;simp only[go_sem];exact lD
theorem Vq(p:Edge->Bool)(l:List Edge)(hl:l.length<=1000000)(k:FuncId)(d cs:List PV)(g:∀x∈l,aS pw k (d++[pA (aY x)]++cs) (λr=>r = .val (.bool (p x)))) :
  aS pw 331 [.aV (l.map aY),.iT (.func k) d cs] (λr=>r = .val (.int .i64 (idxOf p l))):=by
 refine aR [] func331 ntmps331 results331 ?_;simp only[go_sem];refine bL (σ:=Nat) (λx=>(cK (cK (cK (cK gv 0 (.p (.aV (l.map aY)))) 1 (.p (.iT (.func k) d cs))) 7 (.p (.val (.int .i64 l.length)))) 8 (.p (.val (.int .i64 x))))) (λx=>cu)
  (λx=>x<=l.length/\∀j,j<x->p (l.getD j default)=false) (λx=>l.length-x) 0 ⟨Nat.zero_le _,λj c=>absurd c (Nat.not_lt_zero j)⟩ bY ?_
 rintro x ⟨m,f⟩;simp only[go_sem];refine aK (λb=>?_) (λb=>?_)
 ·have a:x<l.length:=by simpa using b
  simp only[go_sem,getD_map aY a,a,aY];refine aX (g (l.getD x default) (by simp[a])) (by simp only[go_sem,ki,kg,aY,pA,Bool.or_false,Bool.false_or]<;>rfl) (cc rfl) ?_;simp only[go_sem];refine aK (λe=>?_) (λe=>?_)<;>simp only[go_sem]
  ·exact (pZ a f e).symm
  ·refine bO (x+1) ⟨a,λj c=>?_⟩ (by omega) ?_
   ·rcases Nat.lt_succ_iff_lt_or_eq.1 c with h|h
    ·exact f j h
    ·rw[h];exact e
   ·rw[bz a (by omega)];exact bY
 ·have i:l.length<=x:=by simpa using b
  simp only[go_sem,b];rw[lV λj c=>f j (by omega)]
theorem Vr(p:Edge->Bool)(l:List Edge)(hl:l.length<=1000000)(k:FuncId)(a cs:List PV)(b:∀x∈l,aS pw k (a++[pA (aY x)]++cs) (λr=>r = .val (.bool (p x)))) :
  aS pw 279 [.aV (l.map aY),.iT (.func k) a cs] (λr=>r = .val (.bool (l.any p))):=by
 refine aR [] func279 ntmps279 results279 ?_;simp only[go_sem];refine aX (Vq p l hl k a cs b) (by simp only[go_sem]<;>rfl) (cc rfl) ?_;simp only[go_sem];exact lD
theorem Vt(p:Int->Bool)(l:List Int)(hl:l.length<=1000000)(k:FuncId)(d cs:List PV)(g:∀x∈l,aS pw k (d++[pV (encI x)]++cs) (λr=>r = .val (.bool (p x)))) :
  aS pw 83 [.aV (l.map encI),.iT (.func k) d cs] (λr=>r = .val (.int .i64 (idxOf p l))):=by
 refine aR [] func83 ntmps83 results83 ?_;simp only[go_sem];refine bL (σ:=Nat) (λx=>(cK (cK (cK (cK gv 0 (.p (.aV (l.map encI)))) 1 (.p (.iT (.func k) d cs))) 7 (.p (.val (.int .i64 l.length)))) 8 (.p (.val (.int .i64 x))))) (λx=>cu)
  (λx=>x<=l.length/\∀j,j<x->p (l.getD j default)=false) (λx=>l.length-x) 0 ⟨Nat.zero_le _,λj c=>absurd c (Nat.not_lt_zero j)⟩ bY ?_
 rintro x ⟨m,f⟩;simp only[go_sem];refine aK (λb=>?_) (λb=>?_)
 ·have a:x<l.length:=by simpa using b
  simp only[go_sem,getD_map encI a,a,encI];refine aX (g (l.getD x default) (by simp[a])) (by simp only[go_sem,ki,kg,encI,pV,Bool.or_false,Bool.false_or]<;>rfl) (cc rfl) ?_;simp only[go_sem];refine aK (λe=>?_) (λe=>?_)<;>simp only[go_sem]
  ·exact (pZ a f e).symm
  ·refine bO (x+1) ⟨a,λj c=>?_⟩ (by omega) ?_
   ·rcases Nat.lt_succ_iff_lt_or_eq.1 c with h|h
    ·exact f j h
    ·rw[h];exact e
   ·rw[bz a (by omega)];exact bY
 ·have i:l.length<=x:=by simpa using b
  simp only[go_sem,b];rw[lV λj c=>f j (by omega)]
theorem Jp(p:Int->Bool)(l:List Int)(hl:l.length<=1000000)(k:FuncId)(a cs:List PV)(b:∀x∈l,aS pw k (a++[pV (encI x)]++cs) (λr=>r = .val (.bool (p x)))) :
  aS pw 40 [.aV (l.map encI),.iT (.func k) a cs] (λr=>r = .val (.bool (l.any p))):=by
 refine aR [] func40 ntmps40 results40 ?_;simp only[go_sem];refine aX (Vt p l hl k a cs b) (by simp only[go_sem]<;>rfl) (cc rfl) ?_;simp only[go_sem];exact lD
theorem Vu(l:List Int)(y:Int)(hl:l.length<=1000000) :
  aS pw 222 [.aV (l.map encI),.val (.int .i64 y)] (λr=>r = .val (.int .i64 (idxOf (λx=>decide (y=x)) l))):=by
 refine aR [] func222 ntmps222 results222 ?_;simp only[go_sem];refine bL (σ:=Nat) (λx=>(cK (cK (cK (cK gv 0 (.p (.aV (l.map encI)))) 1 (.p (.val (.int .i64 y)))) 7 (.p (.val (.int .i64 l.length)))) 8 (.p (.val (.int .i64 x))))) (λx=>cu)
  (λx=>x<=l.length/\∀j,j<x->decide (y=l.getD j default)=false) (λx=>l.length-x) 0 ⟨Nat.zero_le _,λj c=>absurd c (Nat.not_lt_zero j)⟩ bY ?_
 rintro x ⟨g,e⟩;simp only[go_sem];refine aK (λb=>?_) (λb=>?_)
 ·have a:x<l.length:=by simpa using b
  simp only[go_sem,getD_map encI a,a,encI];refine aK (λd=>?_) (λd=>?_)<;>simp only[go_sem]
  ·exact (pZ (p:=λx=>decide (y=x)) a e d).symm
  ·refine bO (x+1) ⟨a,λj c=>?_⟩ (by omega) ?_
   ·rcases Nat.lt_succ_iff_lt_or_eq.1 c with h|h
    ·exact e j h
    ·rw[h];exact d
   ·rw[bz a (by omega)];exact bY
 ·have f:l.length<=x:=by simpa using b
  simp only[go_sem,b];rw[lV λj c=>e j (by omega)]
theorem Vv(l:List Int)(y:Int)(hl:l.length<=1000000) :
  aS pw 172 [.aV (l.map encI),.val (.int .i64 y)] (λr=>r = .val (.bool (l.any λx=>decide (y=x)))):=by
 refine aR [] func172 ntmps172 results172 ?_;simp only[go_sem];refine aX (Vu l y hl) (by simp only[go_sem]<;>rfl) (cc rfl) ?_;simp only[go_sem];exact lD
theorem Vw(l:List ByteArray)(y:ByteArray)(hl:l.length<=1000000) :
  aS pw 360 [.aV (l.map encS),.val (.string y)] (λr=>r = .val (.int .i64 (idxOf (λx=>decide (y=x)) l))):=by
 refine aR [] func360 ntmps360 results360 ?_;simp only[go_sem];refine bL (σ:=Nat) (λx=>(cK (cK (cK (cK gv 0 (.p (.aV (l.map encS)))) 1 (.p (.val (.string y)))) 7 (.p (.val (.int .i64 l.length)))) 8 (.p (.val (.int .i64 x))))) (λx=>cu)
  (λx=>x<=l.length/\∀j,j<x->decide (y=l.getD j default)=false) (λx=>l.length-x) 0 ⟨Nat.zero_le _,λj c=>absurd c (Nat.not_lt_zero j)⟩ bY ?_
 rintro x ⟨g,e⟩;simp only[go_sem];refine aK (λb=>?_) (λb=>?_)
 ·have a:x<l.length:=by simpa using b
  simp only[go_sem,getD_map encS a,a,encS];refine aK (λd=>?_) (λd=>?_)<;>simp only[go_sem]
  ·exact (pZ (p:=λx=>decide (y=x)) a e d).symm
  ·refine bO (x+1) ⟨a,λj c=>?_⟩ (by omega) ?_
   ·rcases Nat.lt_succ_iff_lt_or_eq.1 c with h|h
    ·exact e j h
    ·rw[h];exact d
   ·rw[bz a (by omega)];exact bY
 ·have f:l.length<=x:=by simpa using b
  simp only[go_sem,b];rw[lV λj c=>e j (by omega)]
theorem Jq(l:List ByteArray)(y:ByteArray)(hl:l.length<=1000000) :
  aS pw 301 [.aV (l.map encS),.val (.string y)] (λr=>r = .val (.bool (l.any λx=>decide (y=x)))):=by
 refine aR [] func301 ntmps301 results301 ?_;simp only[go_sem];refine aX (Vw l y hl) (by simp only[go_sem]<;>rfl) (cc rfl) ?_;simp only[go_sem];exact lD
theorem FC(n:Int):aS pw 356 [.val (.int .u8 n)] (λr=>r = .val (.bool (wE n))):=by
 unfold wE;refine aR [] func356 ntmps356 results356 ?_;simp only[go_sem]
 repeat' first|done|(refine bT (λh=>?_) (λh=>?_)<;>try simp only[go_sem,h])|(refine bR (λh=>?_) (λh=>?_)<;>try simp only[go_sem,h])|(refine aW (λh=>?_) (λh=>?_)<;>try simp only[go_sem,h])|(refine aK (λh=>?_) (λh=>?_)<;>try simp only[go_sem,h])
theorem Vx(n:Int):aS pw 355 [.val (.int .u8 n)] (λr=>r = .val (.bool (xW n))):=by
 unfold xW;refine aR [] func355 ntmps355 results355 ?_;simp only[go_sem];refine aX (Jo n) (by simp only[go_sem]<;>rfl) (cc rfl) ?_;simp only[go_sem];refine bT (λh=>?_) (λh=>?_)<;>simp only[go_sem,h]
 refine aX (FC n) (by simp only[go_sem]<;>rfl) (cc rfl) ?_;simp only[go_sem];refine bT (λh=>?_) (λh=>?_)<;>simp only[go_sem,h]
def B4(n:Int):Bool:=(decide (32<=n)&&decide (n<=126)) && !decide (n=34)
theorem Vy(n:Int):aS pw 383 [.val (.int .u8 n)] (λr=>r = .val (.bool (B4 n))):=by
 unfold B4;refine aR [] func383 ntmps383 results383 ?_;simp only[go_sem]
 repeat' first|done|(refine bT (λh=>?_) (λh=>?_)<;>try simp only[go_sem,h])|(refine bR (λh=>?_) (λh=>?_)<;>try simp only[go_sem,h])|(refine aW (λh=>?_) (λh=>?_)<;>try simp only[go_sem,h])|(refine aK (λh=>?_) (λh=>?_)<;>try simp only[go_sem,h])
def s4(p:Int->Bool)(s:ByteArray)(a:Nat):Nat:=((List.range (s.size-a)).takeWhile λj=>p (mb s (a+j))).length
theorem Vz(q:Nat->Bool):∀ (m n:Nat),n<=m->(∀j,j<n->q j=true)->(n=m\/q n=false)->((List.range m).takeWhile q).length=n:=by
 intro m n d a h2;have e:List.range m=List.range n++(List.range (m-n)).map (n + ·):=by rw[<-List.range_add];congr 1;omega
 rw[e,List.takeWhile_append_of_pos (by intro j b;exact a j (List.mem_range.1 b))];rcases h2 with rfl|h2
 ·simp
 ·cases c:m-n with
  |zero=>simp
  |succ r=>simp[List.range_succ_eq_map,h2]
theorem Di{p:Int->Bool}{s:ByteArray}{a n:Nat}(d:a+n<=s.size)(b:∀j,j<n->p (mb s (a+j))=true)(c:a+n=s.size\/p (mb s (a+n))=false):s4 p s a=n:=Vz _ _ _ (by omega) b (by rcases c with h|h;exact .inl (by omega);exact .inr h)
theorem FD(p:Int->Bool)(s:ByteArray)(a:Nat):s4 p s a<=s.size-a:=by unfold s4;exact Nat.le_trans (List.takeWhile_sublist _).length_le (by simp)
theorem FE(p:Int->Bool)(s:ByteArray)(hl:s.size<=1000000)(k:FuncId)(b cs:List PV)(g:∀n,aS pw k (b++[.val (.int .u8 n)]++cs) (λr=>r = .val (.bool (p n)))) :
  aS pw 354 [.val (.string s),.iT (.func k) b cs] (λr=>r = .val (.int .i64 (s4 p s 0))):=by
 refine aR [] func354 ntmps354 results354 ?_;simp only[go_sem];refine bL (σ:=Nat) (λx=>(cK (cK (cK gv 0 (.p (.val (.string s)))) 1 (.p (.iT (.func k) b cs))) 5 (.p (.val (.int .i64 x))))) (λx=>cu)
  (λx=>x<=s.size/\∀j,j<x->p (mb s (0+j))=true) (λx=>s.size-x) 0 ⟨Nat.zero_le _,λj d=>absurd d (Nat.not_lt_zero j)⟩ bY ?_
 rintro x ⟨l,f⟩;simp only[go_sem];refine bR (λa=>?_) (λa=>?_)
 ·have e:x<s.size:=by simpa using a
  simp only[go_sem,e,a];refine aX (g (mb s x)) (by simp only[go_sem,ki,kg,Bool.or_false,Bool.false_or]<;>rfl) (cc rfl) ?_;simp only[go_sem,a];refine aK (λc=>?_) (λc=>?_)<;>simp only[go_sem]
  ·refine bO (x+1) ⟨e,λj d=>?_⟩ (by omega) ?_
   ·rcases Nat.lt_succ_iff_lt_or_eq.1 d with h|h
    ·simpa using f j h
    ·rw[h];exact c
   ·rw[bz e (by omega)];exact bY
  ·rw[Di (by omega) f (.inr (by rw[Nat.zero_add];exact c))]
 ·have i:s.size<=x:=by simpa using a
  simp only[go_sem,a];rw[Di (by omega) f (.inl (by omega))]
theorem VA(s:ByteArray)(hl:s.size<=1000000)(g:0<s.size):aS pw 357 [.val (.string s)] (λr=>∃n e:Int,r = .dY [.val (.int .i64 n),.val (.int .i64 e)]):=by
 have i:((s.extract 1 s.size).size:Int)=s.size-1:=by simp;omega
 have b:=FD B4 (s.extract 1 s.size) 0;generalize f:s4 B4 (s.extract 1 s.size) 0=m at b;have c:i64.wrap (1+(m:Int))=((m+1:Nat):Int):=by rw[IntWalk.i64_in _ (by omega)];omega
 refine aR [] func357 ntmps357 results357 ?_;simp only[go_sem];refine⟨⟨by omega,by omega,by omega⟩,?_⟩;refine aX (FE B4 (s.extract 1 s.size) (by simp;omega) _ [] [] Vy) (by simp only[go_sem]<;>rfl) (cc rfl) ?_;simp only[go_sem,f,c];refine bT (λh=>?_) (λh=>?_)
 ·simp only[go_sem,h];exact⟨_,_,rfl,rfl⟩
 ·have j:m+1≠s.size:=by intro e;rw[e] at h;simp at h
  have d:m+1<s.size:=by simp at b;omega
  simp only[go_sem,h,c,d];refine aK (λa=>?_) (λa=>?_)<;>simp only[go_sem]
  ·exact⟨_,_,rfl,rfl⟩
  ·refine aK (λa=>?_) (λa=>?_)<;>simp only[go_sem]
   ·exact⟨_,_,rfl,rfl⟩
   ·exact⟨_,_,rfl,rfl⟩
def VB:List ByteArray:=[⟨#[45,62]⟩,⟨#[60,61]⟩,⟨#[62,61]⟩,⟨#[61,61]⟩,⟨#[33,61]⟩]
theorem VC(s:ByteArray):aS pw 358 [.val (.string s)] (λr=>∃b:Bool,r = .val (.bool b)):=by
 refine aR [] func358 ntmps358 results358 ?_;simp only[go_sem];refine bR (λh=>?_) (λh=>?_)
 ·have a:(2:Int)<=s.size:=b6 h;simp only[go_sem,h];refine⟨⟨by decide,by decide,a⟩,?_⟩;refine aX (Jq VB (s.extract 0 2) (by decide)) (by simp only[go_sem]<;>rfl) (cc rfl) ?_;simp only[go_sem,h];all_goals exact⟨_,rfl⟩
 ·simp only[go_sem,h];all_goals exact⟨_,rfl⟩
theorem VD(s:ByteArray)(n:Int):EB pw 396 [.val (.string s),.val (.int .u8 n)] (.val (.int .i64 (Lib.indexByte s.data.toList n.toNat.toUInt8))):=by
 intro I w us g;obtain⟨hl,c⟩:=g
 match us,hl,c with
 | [a,b],_,c=>have d:=c 0 a _ rfl rfl;have f:=c 1 b _ rfl rfl;cases d;cases f;refine⟨_,?_,.val _ rfl⟩;rw[run_callFunc_extern func396 (by kernel_rfl) (by kernel_rfl) (by kernel_rfl) (e:=Extern.BytealgIndexByte.indexByte) (by kernel_rfl)];rw[Lib.run_indexByteString];try rfl
theorem VE(s:ByteArray)(n:Int):aS pw 384 [.val (.string s),.val (.int .u8 n)] (λr=>∃m:Int,r = .val (.int .i64 m)):=by refine aR [] func384 ntmps384 results384 ?_;simp only[go_sem];refine TA (VD s n) rfl ?_;simp only[go_sem];all_goals exact⟨_,rfl⟩
theorem VF(s:ByteArray)(n:Int):aS pw 359 [.val (.string s),.val (.int .u8 n)] (λr=>∃m:Int,r = .val (.int .i64 m)):=by refine aR [] func359 ntmps359 results359 ?_;simp only[go_sem];refine th (VE s n) (by simp only[go_sem]<;>rfl) ?_;rintro r ⟨m,rfl⟩;refine⟨cc rfl,?_⟩;simp only[go_sem];all_goals exact⟨_,rfl⟩
def mg(s:ByteArray):Bool:=decide (s.size≠0)&&qS (mb s 0)&&decide (s4 xW s 0=s.size)&&decide (s.size<=20)
theorem Dj(s:ByteArray):mg s=true↔s.size≠0/\qS (mb s 0)=true/\s4 xW s 0=s.size/\s.size<=20:=by unfold mg;simp only[Bool.and_eq_true,decide_eq_true_eq,and_assoc]
theorem VG(s:ByteArray)(hl:s.size<=1000000)(g:0<s.size):aS pw 299 [.val (.string s)] (λr =>
  ∃k n e:Int,r = .dY [.val (.int .i64 k),.val (.int .i64 n),.val (.int .i64 e)]/\((e=0/\k=1/\n=s.size)↔mg s=true)):=by
 have i:(0:Int)<s.size:=by omega
 refine aR [] func299 ntmps299 results299 ?_;simp only[go_sem];refine⟨⟨by decide,i⟩,?_⟩;refine aX (Jo (mb s 0)) (by simp only[go_sem]<;>rfl) (cc rfl) ?_;simp only[go_sem];refine aK (λd=>?_) (λd=>?_)<;>simp only[go_sem]
 ·refine aX (FE xW s hl _ [] [] Vx) (by simp only[go_sem]<;>rfl) (cc rfl) ?_;simp only[go_sem];refine aK (λa=>?_) (λa=>?_)<;>simp only[go_sem]
  ·have m:=b6 a;refine⟨_,_,_,⟨rfl,rfl,rfl⟩,?_⟩;rw[Dj];constructor
   ·rintro⟨h,_⟩;omega
   ·rintro⟨_,_,j,l⟩;omega
  ·have m:=dK a;refine⟨_,_,_,⟨rfl,rfl,rfl⟩,?_⟩;rw[Dj];constructor
   ·rintro⟨_,_,h⟩;exact⟨by omega,d,by omega,by omega⟩
   ·rintro⟨_,_,j,l⟩;exact⟨rfl,rfl,by omega⟩
 ·have c:mg s=false:=by simp[mg,d]
  refine aX (FC (mb s 0)) (by simp only[go_sem]<;>rfl) (cc rfl) ?_;simp only[go_sem];refine aK (λa=>?_) (λa=>?_)<;>simp only[go_sem]
  ·refine aX (FE wE s hl _ [] [] FC) (by simp only[go_sem]<;>rfl) (cc rfl) ?_;simp only[go_sem];refine aK (λa=>?_) (λa=>?_)<;>simp only[go_sem]
   ·exact⟨_,_,_,⟨rfl,rfl,rfl⟩,by simp[c]⟩
   ·exact⟨_,_,_,⟨rfl,rfl,rfl⟩,by simp[c]⟩
  ·refine aK (λo=>?_) (λo=>?_)<;>simp only[go_sem]
   ·refine th (VA s hl g) (by simp only[go_sem]<;>rfl) ?_;rintro r ⟨n,e,rfl⟩;refine⟨cc rfl,?_⟩;simp only[go_sem];exact⟨_,_,_,⟨rfl,rfl,rfl⟩,by simp[c]⟩
   ·refine th (VC s) (by simp only[go_sem]<;>rfl) ?_;rintro r ⟨b,rfl⟩;refine⟨cc rfl,?_⟩;simp only[go_sem];refine aK (λf=>?_) (λf=>?_)<;>simp only[go_sem]
    ·exact⟨_,_,_,⟨rfl,rfl,rfl⟩,by simp[c]⟩
    ·refine th (VF _ _) (by simp only[go_sem]<;>rfl) ?_;rintro r ⟨b,rfl⟩;refine⟨cc rfl,?_⟩;simp only[go_sem];refine aK (λf=>?_) (λf=>?_)<;>simp only[go_sem]
     ·exact⟨_,_,_,⟨rfl,rfl,rfl⟩,by simp[c]⟩
     ·exact⟨_,_,_,⟨rfl,rfl,rfl⟩,by simp[c]⟩
def FF(b:Bool):PV:=.val (.bool b)
theorem VH(s:ByteArray)(hl:s.size<=1000000):aS pw 257 [.agg [.val (.int .i64 1),.val (.string s),.val (.int .i64 0)]] (λr=>∃u:ByteArray,r = .dY [.val (.string u),.val (.bool (mg s))]):=by
 refine aR [] func257 ntmps257 results257 ?_;simp only[go_sem,Int.reduceEq];refine aK (λa=>?_) (λa=>?_)<;>simp only[go_sem]
 ·have b:s=⟨#[]⟩:=b6 a;have:mg s=false:=by rw[b];try rfl
  rw[this];exact⟨_,rfl,rfl⟩
 ·have b:s≠⟨#[]⟩:=dK a;have d:0<s.size:=by
   rcases Nat.eq_zero_or_pos s.size with h|h
   ·exact absurd (ByteArray.ext (Array.eq_empty_of_size_eq_zero h)) b
   ·exact h
  refine th (VG s hl d) (by simp only[go_sem]<;>rfl) ?_;rintro r ⟨k,n,e,rfl,f⟩;refine⟨cc rfl,?_⟩;have g:mg s=((decide (e=0)&&decide (k=1))&&decide (n=s.size)):=by rw[Bool.eq_iff_iff,<-f];simp only[Bool.and_eq_true,decide_eq_true_eq,and_assoc]
  rw[g];simp only[go_sem];refine bR (λh=>?_) (λh=>?_)<;>simp only[go_sem,h,exists_eq',exists_and_right,and_true,true_and]
  refine bR (λc=>?_) (λc=>?_)<;>simp only[go_sem,h,c,exists_eq',exists_and_right,and_true,true_and]
theorem Dk(s:ByteArray)(hl:s.size<=1000000):aS pw 197 [.val (.string s)] (λr=>r = .val (.bool (mg s))):=by refine aR [] func197 ntmps197 results197 ?_;simp only[go_sem];refine th (VH s hl) (by simp only[go_sem]<;>rfl) ?_;rintro r ⟨u,rfl⟩;refine⟨cc rfl,?_⟩;simp only[go_sem]
theorem Jr(n:Int):aS pw 326 [.val (.int .u8 n)] (λr=>r = .val (.bool (qS n))):=by
 unfold qS;refine aR [] func326 ntmps326 results326 ?_;simp only[go_sem]
 repeat' first|done|(refine bT (λh=>?_) (λh=>?_)<;>try simp only[go_sem,h])|(refine bR (λh=>?_) (λh=>?_)<;>try simp only[go_sem,h])|(refine aW (λh=>?_) (λh=>?_)<;>try simp only[go_sem,h])|(refine aK (λh=>?_) (λh=>?_)<;>try simp only[go_sem,h])
theorem uK(n:Int):aS pw 327 [.val (.int .u8 n)] (λr=>r = .val (.bool (wE n))):=by
 unfold wE;refine aR [] func327 ntmps327 results327 ?_;simp only[go_sem]
 repeat' first|done|(refine bT (λh=>?_) (λh=>?_)<;>try simp only[go_sem,h])|(refine bR (λh=>?_) (λh=>?_)<;>try simp only[go_sem,h])|(refine aW (λh=>?_) (λh=>?_)<;>try simp only[go_sem,h])|(refine aK (λh=>?_) (λh=>?_)<;>try simp only[go_sem,h])
def sC(a:Bool)(n:Int):Bool:=wE n||(!a&&(qS n||decide (n=95)))
theorem VI:sC false=xW:=by funext n;unfold sC xW;cases wE n<;>cases qS n<;>simp
theorem Js(s:ByteArray)(hl:s.size<=1000000)(b:Bool) :
  aS pw 328 [.val (.string s),.val (.int .i64 0),.val (.bool b)] (λr=>r = .val (.int .i64 (s4 (sC b) s 0))):=by
 refine aR [] func328 ntmps328 results328 ?_;simp only[go_sem];refine bL (σ:=Nat) (λx=>(cK (cK (cK (cK gv 0 (.p (.val (.string s)))) 1 (.p (.val (.int .i64 0)))) 2 (.p (.val (.bool b)))) 7 (.p (.val (.int .i64 x))))) (λx=>cu)
  (λx=>x<=s.size/\∀j,j<x->sC b (mb s (0+j))=true) (λx=>s.size-x) 0 ⟨Nat.zero_le _,λj e=>absurd e (Nat.not_lt_zero j)⟩ bY ?_
 rintro x ⟨n,f⟩;have hw:i64.wrap (0+(x:Int))=x:=by rw[IntWalk.i64_in _ (by omega)];omega
 simp only[go_sem,hw];refine bR (λa=>?_) (λa=>?_)
 ·have c:x<s.size:=by simpa using a
  have l (h:sC b (mb s x)=false):((x:Nat):Int)=(s4 (sC b) s 0:Nat):=by rw[Di (by omega) f (.inr (by rw[Nat.zero_add];exact h))]
  simp only[go_sem,c,a,hw];refine aX (uK (mb s x)) (by simp only[go_sem]<;>rfl) (cc rfl) ?_;simp only[go_sem,a,hw];refine bT (λd=>?_) (λd=>?_)<;>simp only[go_sem,d,a,hw]
  ·refine bO (x+1) ⟨c,λj e=>?_⟩ (by omega) ?_
   ·rcases Nat.lt_succ_iff_lt_or_eq.1 e with h|h
    ·simpa using f j h
    ·rw[h];simp[sC,d]
   ·rw[bz c (by omega)];exact bY
  ·refine bT (λg=>?_) (λg=>?_)<;>simp only[go_sem,d,g,a,hw]
   ·subst g;exact l (by simp[sC,d])
   ·subst g;refine⟨c,?_⟩;refine aX (Jr (mb s x)) (by simp only[go_sem]<;>rfl) (cc rfl) ?_;simp only[go_sem,a,hw];refine bT (λi=>?_) (λi=>?_)<;>simp only[go_sem,d,i,a,hw,c]
    ·refine bO (x+1) ⟨c,λj e=>?_⟩ (by omega) ?_
     ·rcases Nat.lt_succ_iff_lt_or_eq.1 e with h|h
      ·simpa using f j h
      ·rw[h];simp[sC,i]
     ·rw[bz c (by omega)];exact bY
    ·refine aK (λk=>?_) (λk=>?_)<;>simp only[go_sem]
     ·refine bO (x+1) ⟨c,λj e=>?_⟩ (by omega) ?_
      ·rcases Nat.lt_succ_iff_lt_or_eq.1 e with h|h
       ·simpa using f j h
       ·rw[h];simp[sC,k]
      ·rw[bz c (by omega)];exact bY
     ·exact l (by simp[sC,d,i,k])
 ·have m:s.size<=x:=by simpa using a
  simp only[go_sem,a];rw[Di (by omega) f (.inl (by omega))]
theorem VJ(s:ByteArray)(hl:s.size<=1000000):aS pw 329 [.val (.string s),.val (.int .i64 0)] (λr=>∃n:Nat,r = .val (.int .i64 n)/\(n=0\/(2<=n/\n<=s.size))):=by
 refine aR [] func329 ntmps329 results329 ?_;simp only[go_sem];refine bL (σ:=Nat) (λx=>(cK (cK (cK gv 0 (.p (.val (.string s)))) 1 (.p (.val (.int .i64 0)))) 5 (.p (.val (.int .i64 x))))) (λx=>cu)
  (λx=>1<=x/\x<=s.size+1) (λx=>s.size+1-x) 1 ⟨Nat.le_refl _,by omega⟩ bY ?_
 rintro x ⟨g,f⟩;have hw:i64.wrap (0+(x:Int))=x:=by rw[IntWalk.i64_in _ (by omega)];omega
 simp only[go_sem,hw];refine aK (λc=>?_) (λc=>?_)
 ·have a:x<s.size:=by simpa using c
  simp only[go_sem,a,hw];refine aK (λd=>?_) (λd=>?_)<;>simp only[go_sem]
  ·rw[bz a (by omega)];exact⟨x+1,rfl,.inr ⟨by omega,by omega⟩⟩
  ·refine bT (λb=>?_) (λb=>?_)<;>simp only[go_sem,b]
   ·exact⟨0,rfl,.inl rfl⟩
   ·refine aK (λe=>?_) (λe=>?_)<;>simp only[go_sem]
    ·exact⟨0,rfl,.inl rfl⟩
    ·refine bO (x+1) ⟨by omega,by omega⟩ (by omega) ?_;rw[bz a (by omega)];exact bY
 ·simp only[go_sem];exact⟨0,rfl,.inl rfl⟩
def y5:List ByteArray:=[⟨#[45,62]⟩,⟨#[60,61]⟩,⟨#[62,61]⟩,⟨#[61,61]⟩,⟨#[33,61]⟩,⟨#[123]⟩,⟨#[125]⟩,⟨#[40]⟩,⟨#[41]⟩,⟨#[91]⟩,⟨#[93]⟩,⟨#[44]⟩,⟨#[59]⟩,⟨#[58]⟩,⟨#[61]⟩,⟨#[43]⟩,⟨#[45]⟩,⟨#[42]⟩,⟨#[60]⟩,⟨#[62]⟩,⟨#[33]⟩,⟨#[38]⟩,⟨#[124]⟩,⟨#[46]⟩,⟨#[63]⟩]
theorem VK:aS pw 330 [] (λr=>r = .aV (y5.map encS)):=by refine aR [] func330 ntmps330 results330 ?_;simp only[go_sem];try rfl
theorem VL{n:Int}(h:qS n=true):wE n=false:=by unfold qS wE at *;simp at *;omega
theorem VM(s:ByteArray)(hl:s.size<=1000000)(C:0<s.size):aS pw 270 [.val (.string s),.val (.int .i64 0)] (λr =>
  ∃ (k n e:Int) (u:ByteArray),r = .dY [.agg [.val (.int .i64 k),.val (.string u),.val (.int .i64 0)],.val (.int .i64 n),.val (.int .i64 e)]/\((e=0/\k=1/\n=s.size)↔mg s=true)):=by
 have t:(0:Int)<s.size:=by omega
 refine aR [] func270 ntmps270 results270 ?_;simp only[go_sem];refine⟨⟨by decide,t⟩,?_⟩;refine aX (Jr (mb s 0)) (by simp only[go_sem]<;>rfl) (cc rfl) ?_;simp only[go_sem];refine bT (λd=>?_) (λd=>?_)<;>simp only[go_sem,d]
 ·have o:=VL d;refine aX (uK (mb s 0)) (by simp only[go_sem]<;>rfl) (cc rfl) ?_;simp only[go_sem,o];refine aX (Js s hl false) (by simp only[go_sem]<;>rfl) (cc rfl) ?_;simp only[go_sem,VI];refine aX (uK (mb s 0)) (by simp only[go_sem]<;>rfl) (cc rfl) ?_;simp only[go_sem,o];refine aK (λc=>?_) (λc=>?_)<;>simp only[go_sem]
  ·have v:=b6 c;refine⟨_,_,_,_,⟨⟨rfl,rfl⟩,rfl,rfl⟩,?_⟩;rw[Dj];constructor
   ·rintro⟨h,_⟩;omega
   ·rintro⟨_,_,f,a⟩;omega
  ·have v:=dK c;have i:=FD xW s 0;have hw:i64.wrap (0+(s4 xW s 0:Int))=s4 xW s 0:=by rw[IntWalk.i64_in _ (by omega)];omega
   rw[hw];refine⟨⟨by omega,by omega,by omega⟩,_,_,_,_,⟨⟨rfl,rfl⟩,rfl,rfl⟩,?_⟩;rw[Dj];constructor
   ·rintro⟨_,_,h⟩;exact⟨by omega,d,by omega,by omega⟩
   ·rintro⟨_,_,f,a⟩;exact⟨rfl,rfl,by omega⟩
 ·have y:mg s=false:=by simp[mg,d]
  rw[y];refine aX (uK (mb s 0)) (by simp only[go_sem]<;>rfl) (cc rfl) ?_;simp only[go_sem];refine aK (λc=>?_) (λc=>?_)<;>simp only[go_sem]
  ·refine aX (uK (mb s 0)) (by simp only[go_sem]<;>rfl) (cc rfl) ?_;simp only[go_sem,c];refine aX (Js s hl true) (by simp only[go_sem]<;>rfl) (cc rfl) ?_;simp only[go_sem];refine aX (uK (mb s 0)) (by simp only[go_sem]<;>rfl) (cc rfl) ?_;simp only[go_sem,c];have i:=FD (sC true) s 0;generalize s4 (sC true) s 0=m at i;have hw:i64.wrap (0+(m:Int))=m:=by rw[IntWalk.i64_in _ (by omega)];omega
   refine aK (λc=>?_) (λc=>?_)<;>simp only[go_sem,hw]
   ·exact⟨_,_,_,_,⟨⟨rfl,rfl⟩,rfl,rfl⟩,by simp⟩
   ·exact⟨by omega,_,_,_,_,⟨⟨rfl,rfl⟩,rfl,rfl⟩,by simp⟩
  ·refine aK (λf=>?_) (λf=>?_)<;>simp only[go_sem]
   ·refine th (VJ s hl) (by simp only[go_sem]<;>rfl) ?_;rintro r ⟨n,rfl,i⟩;refine⟨cc rfl,?_⟩;simp only[go_sem];refine aK (λa=>?_) (λa=>?_)<;>simp only[go_sem]
    ·exact⟨_,_,_,_,⟨⟨rfl,rfl⟩,rfl,rfl⟩,by simp⟩
    ·have j:2<=n/\n<=s.size:=by have:=dK a;omega
     refine aK (λg=>?_) (λg=>?_)<;>simp only[go_sem]
     ·exact⟨_,_,_,_,⟨⟨rfl,rfl⟩,rfl,rfl⟩,by simp⟩
     ·have z:i64.wrap (0+1)=1:=by rfl
      have A:i64.wrap (0+(n:Int))=n:=by rw[IntWalk.i64_in _ (by omega)];omega
      have B:i64.wrap ((n:Int)-1)=n-1:=by rw[IntWalk.i64_in _ (by omega)]
      simp only[z,A,B];exact⟨by omega,_,_,_,_,⟨⟨rfl,rfl⟩,rfl,rfl⟩,by simp⟩
   ·refine aX (VK) (by simp only[go_sem]<;>rfl) (y6) ?_;simp only[go_sem];refine bL (σ:=Nat) (λx=>(cK (cK (cK (cK (cK gv 0 (.p (.val (.string s)))) 1 (.p (.val (.int .i64 0)))) 4 (.ptr 4 0)) 12 (.p (.aV (y5.map encS)))) 13 (.p (.val (.int .i64 x)))))
     (λx=>(bn cu 4 (.box [.p (.val (.int .i64 0)),.p (.val (.string ⟨#[]⟩)),.p (.val (.int .i64 0))]))) (λx=>x<=y5.length) (λx=>y5.length-x) 0 (Nat.zero_le _) bY ?_
    rintro x E;simp only[go_sem];refine aK (λl=>?_) (λl=>?_)
    ·have b:x<y5.length:=by simpa using l
     simp only[go_sem];refine dB [.q,.q,.q,.q,.q,.q,.q,.q,.q,.q,.q,.q,.q,.q,.q,.q,.q,.q,.q,.q,.q,.q,.q,.q,.q,.q,.q] (by kernel_rfl) ?_;simp only[go_sem,getD_map encS b,encS,b,List.length_map];have D:(y5.getD x default).size<=2:=by
      have:∀u∈y5,u.size<=2:=by decide
      exact this _ (by simp[b])
     have hw:i64.wrap (0+((y5.getD x default).size:Int))=(y5.getD x default).size:=by rw[IntWalk.i64_in _ (by omega)];omega
     refine oW (λa=>?_) (λa=>?_)
     ·rw[hw] at a;have j:=b6 a;simp only[go_sem,hw,a,j,getD_map encS b,encS,b,List.length_map];refine⟨by omega,?_⟩;refine aK (λg=>?_) (λg=>?_)<;>simp only[go_sem]
      ·refine dB [.p,.p,.p,.p,.p,.p,.p,.p,.p,.p,.w,.q,.q] (by kernel_rfl) ?_;simp only[go_sem,getD_map encS b,encS,b,List.length_map];exact⟨_,_,_,_,⟨⟨rfl,rfl⟩,rfl,rfl⟩,by simp⟩
      ·rw[bz b (by decide)];exact bO (x+1) b (by omega) bY
     ·rw[hw] at a;simp only[go_sem,a,hw];rw[bz b (by decide)];exact bO (x+1) b (by omega) bY
    ·simp only[go_sem];exact⟨_,_,_,_,⟨⟨rfl,rfl⟩,rfl,rfl⟩,by simp⟩
theorem VN(s:ByteArray):aS pw 269 [.agg [.val (.int .i64 1),.val (.string s),.val (.int .i64 0)]] (λr=>r = .val (.string s)):=by refine aR [] func269 ntmps269 results269 ?_;simp only[go_sem,Int.reduceEq]
theorem VO(s:ByteArray)(hl:s.size<=1000000):aS pw 211 [.agg [.val (.int .i64 1),.val (.string s),.val (.int .i64 0)]] (λr=>r = .val (.bool (mg s))):=by
 refine aR [] func211 ntmps211 results211 ?_;simp only[go_sem];refine aX (VN s) (by simp only[go_sem]<;>rfl) (cc rfl) ?_;simp only[go_sem,Int.reduceEq];refine aK (λd=>?_) (λd=>?_)<;>simp only[go_sem]
 ·have f:s=⟨#[]⟩:=b6 d;rw[f];try rfl
 ·have f:s≠⟨#[]⟩:=dK d;have i:0<s.size:=by
   rcases Nat.eq_zero_or_pos s.size with h|h
   ·exact absurd (ByteArray.ext (Array.eq_empty_of_size_eq_zero h)) f
   ·exact h
  refine th (VM s hl i) (by simp only[go_sem]<;>rfl) ?_;rintro r ⟨k,n,e,u,rfl,j⟩;refine⟨cc rfl,?_⟩;have l:mg s=((decide (e=0)&&decide (n=s.size))&&decide (k=1)):=by
   rw[Bool.eq_iff_iff,<-j];simp only[Bool.and_eq_true,decide_eq_true_eq,and_assoc];constructor
   ·rintro⟨a,b,c⟩;exact⟨a,c,b⟩
   ·rintro⟨a,b,c⟩;exact⟨a,c,b⟩
  rw[l];simp only[go_sem];refine bR (λh=>?_) (λh=>?_)<;>simp only[go_sem,h]
  refine bR (λg=>?_) (λg=>?_)<;>simp only[go_sem,h,g]
theorem xT(s:ByteArray)(hl:s.size<=1000000):aS pw 155 [.val (.string s)] (λr=>r = .val (.bool (mg s))):=by refine aR [] func155 ntmps155 results155 ?_;simp only[go_sem];refine aX (VO s hl) (by simp only[go_sem]<;>rfl) (cc rfl) ?_;simp only[go_sem]
structure fK(t:Types):Prop where
 nodes:t.nodes.length<=20
 ak:t.ak.length<=30
 attrs:∀n∈t.nodes,n.attrs.length<=30
 name:∀n∈t.nodes,n.name.size<=40
 Nh:∀n∈t.nodes,∀a∈n.attrs,a.name.size<=40
 names:∀n∈t.nodes,∀a∈n.attrs,a.names.length<=25
 word:∀n∈t.nodes,∀a∈n.attrs,∀s∈a.names,s.size<=40
 HK:∀e∈t.ak,e.name.size<=40
def qT(t:Types)(n:Nat):Prop:=∀j,j<n->-1<=(t.nodes.getD j default).parent/\(t.nodes.getD j default).parent<j
def pO(t:Types):Nat->Nat->List Attr
 |0,_=>[]
 |k+1,a=>(if 0<=(t.nodes.getD a default).parent then pO t k (t.nodes.getD a default).parent.toNat else [])++(t.nodes.getD a default).attrs
def bg(t:Types)(a:Nat):List Attr:=pO t (a+1) a
theorem Jt{t:Types} : ∀ (k b a:Nat),qT t (a+1)->a<k->a<b->pO t k a=pO t b a
 |0,_,_,_,h,_=>by omega
 |_+1,0,_,_,_,h=>by omega
 |k+1,b+1,a,c,h,d=>by
  unfold pO;split
  ·rename_i e;have g:=c a (by omega);rw[Jt k b (t.nodes.getD a default).parent.toNat (λj f=>c j (by omega)) (by omega) (by omega)]
  ·rfl
theorem qp{t:Types}{a:Nat}(b:qT t (a+1)):bg t a=(if 0<=(t.nodes.getD a default).parent then bg t (t.nodes.getD a default).parent.toNat else [])++(t.nodes.getD a default).attrs:=by
 conv=>lhs;unfold bg pO
 split
 ·rename_i c;have e:=b a (by omega);unfold bg;rw[Jt a ((t.nodes.getD a default).parent.toNat+1) _ (λj d=>b j (by omega)) (by omega) (by omega)]
 ·rfl
theorem iA{α:Type} [Inhabited α]{l:List α}{a:Nat}(b:a<l.length):l.getD a default∈l:=by
 have:l.getD a default=l[a]:=by simp[b]
 rw[this];exact l8 _
theorem Ju{t:Types}(b:fK t):∀ (k a:Nat),a<t.nodes.length->qT t (a+1)->(pO t k a).length<=k * 30
 |0,_,_,_=>by simp[pO]
 |k+1,a,e,c=>by
  unfold pO;have d:(t.nodes.getD a default).attrs.length<=30:=b.attrs _ (iA e);have h:=c a (by omega);rw[List.length_append];generalize g:(t.nodes.getD a default).attrs.length=i at d ⊢;split
  ·have:=Ju b k (t.nodes.getD a default).parent.toNat (by omega) (λj f=>c j (by omega));omega
  ·simp;omega
theorem nq{t:Types}(b:fK t){a:Nat}(c:a<t.nodes.length)(d:qT t (a+1)):(bg t a).length<=600:=by have:=Ju b (a+1) a c d;have:=b.nodes;unfold bg;omega
theorem FG{t:Types}(e:fK t):∀ (k a:Nat),a<t.nodes.length->qT t (a+1)->∀x∈pO t k a,∃n∈t.nodes,x∈n.attrs
 |0,_,_,_,x,b=>by simp[pO] at b
 |k+1,a,d,c,x,b=>by
  unfold pO at b;have g:=c a (by omega);rcases List.mem_append.1 b with h|h
  ·split at h
   ·exact FG e k (t.nodes.getD a default).parent.toNat (by omega) (λj f=>c j (by omega)) x h
   ·cases h
  ·exact⟨_,iA d,h⟩
theorem B5(l:List Attr):∀x∈l.map aU,x.length=4:=by intro x b;obtain⟨a,_,rfl⟩:=List.mem_map.1 b;rfl
theorem Jv(t:Types)(h:fK t):∀ (a:Nat),a<t.nodes.length->qT t (a+1)->bw pw 199 [aD t,.val (.int .i64 a)] (λr=>r = .row 138 4 ((bg t a).map aU)):=by
 intro a
 induction a using Nat.strongRecOn with
 |_ a m =>
  intro b c;have k:=c a (by omega);have n:=h.attrs _ (iA b);have i:=nq h b c;refine bF [25] func199 ntmps199 results199 ?_;simp only[go_sem,aD,getD_map aJ b,b,aJ];refine aK (λf=>?_) (λf=>?_)<;>simp only[go_sem,getD_map aJ b,b,aJ]
  ·have d:=b6 f;obtain⟨q,g⟩:∃q:Nat,(t.nodes.getD a default).parent=q:=⟨_,(Int.toNat_of_nonneg d).symm⟩;have l:q<a:=by have:=k.2;rw[g] at this;omega
   rw[g];refine w5 17 (m q l (by omega) (λj o=>c j (by omega))) (by simp only[go_sem,getD_map aJ b,b,aJ]<;>rfl) (xl) (by simp only[go_sem,getD_map aJ b,b,aJ]) ?_;simp only[go_sem,getD_map aJ b,b,aJ];have e:bg t a=bg t q++(t.nodes.getD a default).attrs:=by rw[qp c,if_pos d,g];try rfl
   rw[e,List.length_append] at i;exact⟨⟨by omega,B5 _⟩,by decide,_,.refl _,by rw[e,List.map_append]⟩
  ·have d:=dK f;have e:bg t a=(t.nodes.getD a default).attrs:=by rw[qp c,if_neg d];try rfl
   exact⟨⟨by omega,B5 _⟩,by decide,_,.refl _,by rw[e]⟩
def kH(f:Nat->Int)(s n:Nat):Option Nat:=(List.range' s (n-s)).find? λi=>decide (f i≠0)
def nJ(f:Nat->Int)(s n:Nat):Int:=match kH f s n with
 |some k=>f k
 |none=>0
theorem mJ{f:Nat->Int}{s n k:Nat}(g:s<=k)(e:k<n)(a:∀j,s<=j->j<k->f j=0)(b:f k≠0):kH f s n=some k:=by unfold kH;rw[List.find?_range'_eq_some];refine⟨by simpa using b,by simp[List.mem_range'_1];omega,λj c d=>by simpa using a j c d⟩
theorem gQ{f:Nat->Int}{s n:Nat}(b:∀j,s<=j->j<n->f j=0):kH f s n=none:=by unfold kH;rw[List.find?_eq_none];intro j a;rw[List.mem_range'_1] at a;have:=b j a.1 (by omega);simpa using this
theorem w8{f:Nat->Int}{s n k:Nat}(d:s<=k)(c:k<n)(a:∀j,s<=j->j<k->f j=0)(b:f k≠0):nJ f s n=f k:=by unfold nJ;rw[mJ d c a b]
theorem qz{f:Nat->Int}{s n:Nat}(a:∀j,s<=j->j<n->f j=0):nJ f s n=0:=by unfold nJ;rw[gQ a]
theorem sD{f:Nat->Int}{n k:Nat}(c:k<n)(a:∀j,j<k->f j=0)(b:f k≠0):nJ f 0 n=f k:=w8 (Nat.zero_le _) c (λj _=>a j) b
theorem uv{f:Nat->Int}{n:Nat}(a:∀j,j<n->f j=0):nJ f 0 n=0:=qz λj _=>a j
theorem all_succ{f:Nat->Int}{x:Nat}(h:∀j,j<x->f j=0)(b:f x=0):∀j,j<x+1->f j=0:=λj a=>by
 rcases Nat.lt_succ_iff_lt_or_eq.1 a with h'|h'
 ·exact h j h'
 ·rw[h'];exact b
def u7(l:List ByteArray)(i:Nat):Int:=if mg (l.getD i default)=false then 2 else if (l.take i).any (λx=>decide (l.getD i default=x))=true then 5 else 0
def Ar(l:List ByteArray):Int:=if 20<l.length then 3 else nJ (u7 l) 0 l.length
theorem VP(l:List ByteArray)(hl:l.length<=25)(hw:∀s∈l,s.size<=40):aS pw 260 [.aV (l.map encS)] (λr=>r = .val (.int .i64 (Ar l))):=by
 unfold Ar;refine aR [] func260 ntmps260 results260 ?_;simp only[go_sem];refine aK (λe=>?_) (λe=>?_)<;>simp only[go_sem]
 ·have f:20<l.length:=by have:=b6 e;omega
  rw[if_pos f]
 ·have f:¬ 20<l.length:=by have:=dK e;omega
  rw[if_neg f];refine bL (σ:=Nat) (λx=>(cK (cK (cK (cK gv 0 (.p (.aV (l.map encS)))) 8 (.p (.aV (l.map encS)))) 9 (.p (.val (.int .i64 l.length)))) 10 (.p (.val (.int .i64 x))))) (λx=>cu)
   (λx=>x<=l.length/\∀j,j<x->u7 l j=0) (λx=>l.length-x) 0 ⟨Nat.zero_le _,λj i=>absurd i (Nat.not_lt_zero j)⟩ bY ?_
  rintro x ⟨k,d⟩;simp only[go_sem];refine aK (λh=>?_) (λh=>?_)
  ·have b:x<l.length:=by simpa using h
   simp only[go_sem,getD_map encS b,b,encS];refine aX (Dk (l.getD x default) (Nat.le_trans (hw _ (iA b)) (by decide))) (by simp only[go_sem,getD_map encS b,b,encS]<;>rfl) (cc rfl) ?_;simp only[go_sem,getD_map encS b,b,encS];refine aW (λc=>?_) (λc=>?_)<;>simp only[go_sem,getD_map encS b,b,encS]
   ·refine⟨⟨⟨by omega,by omega⟩,λx k=>by obtain⟨a,_,rfl⟩:=List.mem_map.1 k;rfl⟩,?_⟩;refine aX (Jq (l.take x) (l.getD x default) (by simp;omega)) (by simp only[go_sem,getD_map encS b,b,encS]<;>rfl) (cc rfl) ?_;simp only[go_sem,getD_map encS b,b,encS];refine aK (λg=>?_) (λg=>?_)<;>simp only[go_sem,getD_map encS b,b,encS]
    ·have:u7 l x=5:=by unfold u7;rw[if_neg (by rw[c];decide),if_pos g]
     rw[sD b d (by rw[this];decide),this]
    ·have:u7 l x=0:=by unfold u7;rw[if_neg (by rw[c];decide),if_neg (by rw[g];decide)]
     exact bO (x+1) ⟨b,all_succ d this⟩ (by omega) (by rw[bz b (by omega)];exact bY)
   ·have:u7 l x=2:=by unfold u7;rw[if_pos c]
    rw[sD b d (by rw[this];decide),this]
  ·have m:l.length<=x:=by simpa using h
   simp only[go_sem];rw[uv λj i=>d j (by omega)]
theorem VQ(x y:Attr):aS pw 259 [.agg (aU y),.eF (aU x) 0] (λr=>r = .val (.bool (decide (y.name=x.name)))):=by refine aR [] func259 ntmps259 results259 ?_;simp only[go_sem,aU,cZ]
theorem VS(x y:ic):aS pw 198 [.agg (aJ y),.eF (aJ x) 0] (λr=>r = .val (.bool (decide (y.name=x.name)))):=by refine aR [] func198 ntmps198 results198 ?_;simp only[go_sem,aJ,cZ]
theorem VT(x y:mI):aS pw 203 [.agg (aL y),.eF (aL x) 0] (λr=>r = .val (.bool (decide (y.name=x.name)))):=by refine aR [] func203 ntmps203 results203 ?_;simp only[go_sem,aL,cZ]
structure FH(x:Attr):Prop where
 name:x.name.size<=40
 names:x.names.length<=25
 word:∀s∈x.names,s.size<=40
def AR(x:Attr):Bool:=if 0<x.names.length then decide (x.low=0)&&decide (x.high=(x.names.length:Int)-1) else (decide (-1000000<=x.low)&&decide (x.low<=x.high))&&decide (x.high<=1000000)
theorem sE(x:Attr):AR x=true↔(0<x.names.length/\x.low=0/\x.high=(x.names.length:Int)-1)\/(x.names.length=0/\-1000000<=x.low/\x.low<=x.high/\x.high<=1000000):=by
 unfold AR;split
 ·simp only[Bool.and_eq_true,decide_eq_true_eq];omega
 ·simp only[Bool.and_eq_true,decide_eq_true_eq];omega
def u9(x:Attr):Int:=if Ar x.names≠0 then Ar x.names else if AR x=true then 0 else 6
def tu(a:List Attr)(x:Attr):Int:=if mg x.name=false then 2 else if a.any (λy=>decide (y.name=x.name))=true then 5 else u9 x
theorem VU(x:Attr)(a:List Attr)(c:FH x)(k:a.length<=10000):aS pw 200 [.agg (aU x),.aV (a.map aU)] (λr=>r = .val (.int .i64 (tu a x))):=by
 have l:=c.names;refine aR [] func200 ntmps200 results200 ?_;simp only[go_sem,aU,cZ];refine aX (Dk x.name (Nat.le_trans c.name (by decide))) (by simp only[go_sem,aU,cZ]<;>rfl) (cc rfl) ?_;simp only[go_sem,aU,cZ];refine aW (λb=>?_) (λb=>?_)<;>simp only[go_sem,aU,cZ]
 ·refine aX (Vl (λy=>decide (y.name=x.name)) a (by omega) _ [] [.eF (aU x) 0] (λy _=>VQ x y)) (by simp only[go_sem,aU,cZ]<;>rfl) (cc rfl) ?_;simp only[go_sem,aU,cZ];refine aK (λd=>?_) (λd=>?_)<;>simp only[go_sem,aU,cZ]
  ·unfold tu;rw[if_neg (by rw[b];decide),if_pos d]
  ·have e:tu a x=u9 x:=by unfold tu;rw[if_neg (by rw[b];decide),if_neg (by rw[d];decide)]
   rw[e];refine aX (VP x.names c.names c.word) (by simp only[go_sem,aU,cZ]<;>rfl) (cc rfl) ?_;simp only[go_sem,aU,cZ];refine aW (λf=>?_) (λf=>?_)<;>simp only[go_sem,aU,cZ]
   ·have g:=b6 f;have i:u9 x=if AR x=true then 0 else 6:=by unfold u9;rw[if_neg (by rw[g];decide)]
    rw[i];have hw:i64.wrap ((x.names.length:Int)-1)=(x.names.length:Int)-1:=IntWalk.i64_in _ (by omega)
    repeat' first|done|(refine bT (λh=>?_) (λh=>?_)<;>try simp only[go_sem,h,hw,aU,cZ])|(refine bR (λh=>?_) (λh=>?_)<;>try simp only[go_sem,h,hw,aU,cZ])|(refine aW (λh=>?_) (λh=>?_)<;>try simp only[go_sem,h,hw,aU,cZ])|(refine aK (λh=>?_) (λh=>?_)<;>try simp only[go_sem,h,hw,aU,cZ])
    all_goals
     simp only[Bool.not_eq_true',Bool.not_eq_false',decide_eq_true_eq,decide_eq_false_iff_not,Decidable.not_not] at *;split<;>rename_i j<;>rw[sE] at j<;>omega
   ·have g:=dK f;unfold u9;rw[if_pos g]
 ·unfold tu;rw[if_pos b]
theorem fK.Dl{t:Types}(b:fK t){a:Nat}(d:a<t.nodes.length)(e:qT t (a+1)){x:Attr}(f:x∈bg t a):FH x:=by obtain⟨n,c,h⟩:=FG b _ a d e x f;exact⟨b.Nh n c x h,b.names n c x h,b.word n c x h⟩
def kQ(t:Types)(i:Nat):Int :=
 if mg (t.nodes.getD i default).name=false then 2
 else if (t.nodes.take i).any (λy=>decide (y.name=(t.nodes.getD i default).name))=true then 5
 else if ¬ (-1<=(t.nodes.getD i default).parent/\(t.nodes.getD i default).parent<i) then 6
 else if 4<(t.nodes.getD i default).attrs.length then 3
 else if 8<(bg t i).length then 3
 else nJ (λk=>tu ((bg t i).take k) ((bg t i).getD k default)) ((bg t i).length-(t.nodes.getD i default).attrs.length) (bg t i).length
theorem VV{t:Types}{i:Nat}(h:kQ t i=0) : -1<=(t.nodes.getD i default).parent/\(t.nodes.getD i default).parent<i:=by
 unfold kQ at h;split at h
 ·cases h
 ·split at h
  ·cases h
  ·split at h
   ·cases h
   ·rename_i a;exact Decidable.of_not_not a
theorem VW(t:Types)(d:fK t)(i:Nat)(b:i<t.nodes.length)(L:qT t i):aS pw 148 [aD t,.val (.int .i64 i)] (λr=>r = .val (.int .i64 (kQ t i))):=by
 have Q:=d.nodes;have S:=d.attrs _ (iA b);refine aR [] func148 ntmps148 results148 ?_;simp only[go_sem,aD,getD_map aJ b,b,aJ];refine aX (Dk (t.nodes.getD i default).name (Nat.le_trans (d.name _ (iA b)) (by decide))) (by simp only[go_sem,aD,getD_map aJ b,b,aJ]<;>rfl) (cc rfl) ?_;simp only[go_sem,aD,getD_map aJ b,b,aJ];refine aW (λl=>?_) (λl=>?_)<;>simp only[go_sem,aD,getD_map aJ b,b,aJ]
 ·refine⟨⟨⟨by omega,by omega⟩,λx F=>by obtain⟨a,_,rfl⟩:=List.mem_map.1 F;rfl⟩,?_⟩;refine aX (Vn (λy=>decide (y.name=(t.nodes.getD i default).name)) (t.nodes.take i) (by simp;omega) _ [] [.eF (aJ (t.nodes.getD i default)) 0] (λy _=>VS _ y)) (by simp only[go_sem,aD,getD_map aJ b,b,aJ]<;>rfl) (cc rfl) ?_;simp only[go_sem,aD,getD_map aJ b,b,aJ];refine aK (λu=>?_) (λu=>?_)<;>simp only[go_sem,aD,getD_map aJ b,b,aJ]
  ·unfold kQ;rw[if_neg (by rw[l];decide),if_pos u]
  ·have E : kQ t i = if ¬ (-1 ≤ (t.nodes.getD i default).parent ∧ (t.nodes.getD i default).parent < i) then 6
     else if 4<(t.nodes.getD i default).attrs.length then 3 else if 8<(bg t i).length then 3
     else nJ (λk=>tu ((bg t i).take k) ((bg t i).getD k default)) ((bg t i).length-(t.nodes.getD i default).attrs.length) (bg t i).length:=by
    unfold kQ;rw[if_neg (by rw[l];decide),if_neg (by rw[u];decide)]
   rw[E];clear E;refine bT (λm=>?_) (λm=>?_)<;>simp only[go_sem,m,aD,getD_map aJ b,b,aJ]
   ·have G:=b6 m;rw[if_pos (by omega)]
   ·have G:=dK m;refine aK (λv=>?_) (λv=>?_)<;>simp only[go_sem,aD,getD_map aJ b,b,aJ]
    ·have H:=b6 v;rw[if_pos (by omega)]
    ·have H:=dK v;rw[if_neg (by omega)];refine aK (λw=>?_) (λw=>?_)<;>simp only[go_sem,aD,getD_map aJ b,b,aJ]
     ·have I:=b6 w;rw[if_pos (by omega)]
     ·have I:=dK w;rw[if_neg (by omega)];have o:qT t (i+1):=λj g=>by
       rcases Nat.lt_succ_iff_lt_or_eq.1 g with h|h
       ·exact L j h
       ·subst h;omega
      have P:=nq d b o;have N:(t.nodes.getD i default).attrs.length<=(bg t i).length:=by rw[qp o,List.length_append];omega
      generalize R:(bg t i).length-(t.nodes.getD i default).attrs.length=s;have hw:i64.wrap (((bg t i).length:Int)-((t.nodes.getD i default).attrs.length:Int))=s:=by rw[IntWalk.i64_in _ (by omega)];omega
      refine aX ((Jv t d i b o).B2) (by simp only[go_sem,aD,getD_map aJ b,b,aJ]<;>rfl) (y6) ?_;simp only[go_sem,aD,getD_map aJ b,b,aJ];refine aK (λz=>?_) (λz=>?_)<;>simp only[go_sem,aD,getD_map aJ b,b,aJ]
      ·have J:=b6 z;rw[if_pos (by omega)]
      ·have J:=dK z;rw[if_neg (by omega),hw];generalize K:(λk=>tu ((bg t i).take k) ((bg t i).getD k default))=f;refine bL (σ:=Nat) (λx=>(cK (cK (cK (cK (cK gv 1 (.p (.val (.int .i64 i)))) 2 (.ptr 2 0)) 5 (.ptr 5 0)) 6 (.p (.aV ((bg t i).map aU)))) 7 (.p (.val (.int .i64 x)))))
        (λx=>(bn (bn cu 2 (.box [.p (.aV (t.nodes.map aJ)),.p (.aV (t.ak.map aL))])) 5 (.box [.p (.val (.string (t.nodes.getD i default).name)),.p (.val (.int .i64 (t.nodes.getD i default).parent)),.p (.val (.bool (t.nodes.getD i default).abs)),.p (.aV ((t.nodes.getD i default).attrs.map aU))])))
        (λx=>(s<=x/\x<=(bg t i).length)/\∀j,s<=j->j<x->f j=0) (λx=>(bg t i).length-x) s ⟨⟨Nat.le_refl _,by omega⟩,λj g n=>absurd n (by omega)⟩ bY ?_
       rintro x ⟨⟨M,F⟩,D⟩;simp only[go_sem,aD,getD_map aJ b,b,aJ];refine aK (λC=>?_) (λC=>?_)
       ·have c:x<(bg t i).length:=by have:=b6 C;omega
        simp only[go_sem,aD,getD_map aJ b,b,aJ,getD_map aU c,c,aU];refine dB [.q,.q,.q,.q,.q,.q,.q,.q,.q] (by kernel_rfl) ?_;simp only[go_sem,aD,getD_map aJ b,b,aJ,getD_map aU c,c,aU];refine⟨⟨⟨by omega,by omega⟩,B5 _⟩,?_⟩;refine jV (VU ((bg t i).getD x default) ((bg t i).take x) (d.Dl b o (iA c)) (by simp;omega)) (by simp only[go_sem,aD,getD_map aJ b,b,aJ,getD_map aU c,c,aU]<;>rfl) (cc rfl) ?_;simp only[go_sem,aD,getD_map aJ b,b,aJ,getD_map aU c,c,aU];have e:f x=tu ((bg t i).take x) ((bg t i).getD x default):=by rw[<-K]
        rw[<-e];refine aW (λA=>?_) (λA=>?_)<;>simp only[go_sem,aD,getD_map aJ b,b,aJ,getD_map aU c,c,aU]
        ·have B:=b6 A;exact bO (x+1) ⟨⟨by omega,c⟩,λj g n=>by
          rcases Nat.lt_succ_iff_lt_or_eq.1 n with h|h
          ·exact D j g h
          ·rw[h];exact B⟩ (by omega) (by rw[bz c (by omega)];exact bY)
        ·have B:=dK A;rw[w8 M c D B]
       ·have O:(bg t i).length<=x:=by have:=dK C;omega
        simp only[go_sem,aD,getD_map aJ b,b,aJ];rw[qz λj g n=>D j g (by omega)]
 ·unfold kQ;rw[if_pos l]
def hM(t:Types)(n:Int):Bool:=decide (0<=n)&&decide (n<t.nodes.length)
theorem Jw(t:Types)(n:Int):aS pw 201 [.val (.int .i64 n),.eF [.aV (t.nodes.map aJ),.aV (t.ak.map aL)] 0] (λr=>r = .val (.bool (hM t n))):=by
 unfold hM;refine aR [] func201 ntmps201 results201 ?_;simp only[go_sem]
 repeat' first|done|(refine bT (λh=>?_) (λh=>?_)<;>try simp only[go_sem,h])|(refine bR (λh=>?_) (λh=>?_)<;>try simp only[go_sem,h])|(refine aW (λh=>?_) (λh=>?_)<;>try simp only[go_sem,h])|(refine aK (λh=>?_) (λh=>?_)<;>try simp only[go_sem,h])
def oq(t:Types)(i:Nat):Int :=
 if mg (t.ak.getD i default).name=false then 2
 else if (t.ak.take i).any (λy=>decide (y.name=(t.ak.getD i default).name))=true then 5
 else if ((hM t (t.ak.getD i default).src&&hM t (t.ak.getD i default).dst)&&(wD (t.ak.getD i default).nI (t.ak.getD i default).j9&&wD (t.ak.getD i default).tq (t.ak.getD i default).og))=true then 0 else 6
theorem VX(t:Types)(k:fK t)(i:Nat)(b:i<t.ak.length):aS pw 149 [aD t,.val (.int .i64 i)] (λr=>r = .val (.int .i64 (oq t i))):=by
 have m:=k.ak;refine aR [] func149 ntmps149 results149 ?_;simp only[go_sem,aD,getD_map aL b,b,aL];refine aX (Dk (t.ak.getD i default).name (Nat.le_trans (k.HK _ (iA b)) (by decide))) (by simp only[go_sem,aD,getD_map aL b,b,aL]<;>rfl) (cc rfl) ?_;simp only[go_sem,aD,getD_map aL b,b,aL];refine aW (λc=>?_) (λc=>?_)<;>simp only[go_sem,aD,getD_map aL b,b,aL]
 ·refine⟨⟨⟨by omega,by omega⟩,λx l=>by obtain⟨a,_,rfl⟩:=List.mem_map.1 l;rfl⟩,?_⟩;refine aX (Vp (λy=>decide (y.name=(t.ak.getD i default).name)) (t.ak.take i) (by simp;omega) _ [] [.eF (aL (t.ak.getD i default)) 0] (λy _=>VT _ y)) (by simp only[go_sem,aD,getD_map aL b,b,aL]<;>rfl) (cc rfl) ?_;simp only[go_sem,aD,getD_map aL b,b,aL];refine aK (λd=>?_) (λd=>?_)<;>simp only[go_sem,aD,getD_map aL b,b,aL]
  ·unfold oq;rw[if_neg (by rw[c];decide),if_pos d]
  ·have f:oq t i=if ((hM t (t.ak.getD i default).src&&hM t (t.ak.getD i default).dst)&&(wD (t.ak.getD i default).nI (t.ak.getD i default).j9&&wD (t.ak.getD i default).tq (t.ak.getD i default).og))=true then 0 else 6:=by unfold oq;rw[if_neg (by rw[c];decide),if_neg (by rw[d];decide)]
   rw[f];clear f;refine aX (Jw t (t.ak.getD i default).src) (by simp only[go_sem,aD,getD_map aL b,b,aL]<;>rfl) (cc rfl) ?_;simp only[go_sem,aD,getD_map aL b,b,aL];refine bR (λe=>?_) (λe=>?_)<;>simp only[go_sem,e,aD,getD_map aL b,b,aL]
   refine aX (Jw t (t.ak.getD i default).dst) (by simp only[go_sem,aD,getD_map aL b,b,aL]<;>rfl) (cc rfl) ?_;simp only[go_sem,e,aD,getD_map aL b,b,aL];refine aW (λg=>?_) (λg=>?_)<;>simp only[go_sem,g,aD,getD_map aL b,b,aL]
   refine aX (Jm (t.ak.getD i default).nI (t.ak.getD i default).j9) (by simp only[go_sem,aD,getD_map aL b,b,aL]<;>rfl) (cc rfl) ?_;simp only[go_sem,aD,getD_map aL b,b,aL];refine bR (λh=>?_) (λh=>?_)<;>simp only[go_sem,h,aD,getD_map aL b,b,aL]
   refine aX (Jm (t.ak.getD i default).tq (t.ak.getD i default).og) (by simp only[go_sem,aD,getD_map aL b,b,aL]<;>rfl) (cc rfl) ?_;simp only[go_sem,aD,getD_map aL b,b,aL];refine aW (λj=>?_) (λj=>?_)<;>simp only[go_sem,j,aD,getD_map aL b,b,aL]
 ·unfold oq;rw[if_pos c]
def gR(t:Types):ByteArray×Int :=
 if t.nodes.length=0 then (⟨#[]⟩,7)
 else if 12<t.nodes.length\/20<t.ak.length then (⟨#[]⟩,3)
 else match kH (kQ t) 0 t.nodes.length with
  |some k=>((t.nodes.getD k default).name,kQ t k)
  |none=>match kH (oq t) 0 t.ak.length with
   |some k=>((t.ak.getD k default).name,oq t k)
   |none=>(⟨#[]⟩,0)
theorem FI{t:Types}{n:Nat}(h:∀j,j<n->kQ t j=0):qT t n:=λj a=>VV (h j a)
theorem Jx(t:Types)(g:fK t):aS pw 77 [aD t] (λr=>r = .dY [.val (.string (gR t).1),.val (.int .i64 (gR t).2)]):=by
 have C:=g.nodes;have B:=g.ak;refine aR [] func77 ntmps77 results77 ?_;simp only[go_sem,aD];refine aK (λl=>?_) (λl=>?_)<;>simp only[go_sem,aD]
 ·have A:=b6 l;unfold gR;rw[if_pos (by omega)];exact⟨rfl,rfl⟩
 ·have A:=dK l;have s:t.nodes.length≠0:=by omega
  have yJ:12<t.nodes.length\/20<t.ak.length->gR t=(⟨#[]⟩,3):=λh=>by unfold gR;rw[if_neg s,if_pos h]
  refine bT (λf=>?_) (λf=>?_)<;>simp only[go_sem,f,aD]
  ·have u:=b6 f;rw[yJ (by omega)];exact⟨rfl,rfl⟩
  ·have u:=dK f;refine aK (λm=>?_) (λm=>?_)<;>simp only[go_sem,aD]
   ·have v:=b6 m;rw[yJ (by omega)];exact⟨rfl,rfl⟩
   ·have v:=dK m
    have d : gR t = match kH (kQ t) 0 t.nodes.length with
      |some k=>((t.nodes.getD k default).name,kQ t k)
      |none=>match kH (oq t) 0 t.ak.length with
       |some k=>((t.ak.getD k default).name,oq t k)
       |none=>(⟨#[]⟩,0):=by unfold gR;rw[if_neg s,if_neg (by omega)]
    clear yJ;refine bL (σ:=Nat) (λx=>(cK (cK (cK (cK gv 1 (.ptr 1 0)) 27 (.p (.aV (t.nodes.map aJ)))) 28 (.p (.val (.int .i64 t.nodes.length)))) 29 (.p (.val (.int .i64 x)))))
     (λx=>(bn cu 1 (.box [.p (.aV (t.nodes.map aJ)),.p (.aV (t.ak.map aL))])))
     (λx=>x<=t.nodes.length/\∀j,j<x->kQ t j=0) (λx=>t.nodes.length-x) 0 ⟨Nat.zero_le _,λj e=>absurd e (Nat.not_lt_zero j)⟩ bY ?_
    rintro x ⟨D,i⟩;simp only[go_sem,aD];refine aK (λn=>?_) (λn=>?_)
    ·have a:x<t.nodes.length:=by simpa using n
     simp only[go_sem,aD,getD_map aJ a,a,aJ];refine aX (VW t g x a (FI i)) (by simp only[go_sem,aD,getD_map aJ a,a,aJ]<;>rfl) (cc rfl) ?_;simp only[go_sem,aD,getD_map aJ a,a,aJ];refine aW (λb=>?_) (λb=>?_)<;>simp only[go_sem,aD,getD_map aJ a,a,aJ]
     ·have c:=b6 b;exact bO (x+1) ⟨a,all_succ i c⟩ (by omega) (by rw[bz a (by omega)];exact bY)
     ·have c:=dK b;rw[d,mJ (Nat.zero_le _) a (λj _=>i j) c];exact⟨rfl,rfl⟩
    ·have z:t.nodes.length<=x:=by simpa using n
     have w:kH (kQ t) 0 t.nodes.length=none:=gQ λj _ e=>i j (by omega)
     rw[w] at d;simp only[] at d;simp only[go_sem,aD];refine bL (σ:=Nat) (λx=>(cK (cK (cK (cK gv 1 (.ptr 1 0)) 44 (.p (.aV (t.ak.map aL)))) 45 (.p (.val (.int .i64 t.ak.length)))) 46 (.p (.val (.int .i64 x)))))
      (λx=>(bn cu 1 (.box [.p (.aV (t.nodes.map aJ)),.p (.aV (t.ak.map aL))])))
      (λx=>x<=t.ak.length/\∀j,j<x->oq t j=0) (λx=>t.ak.length-x) 0 ⟨Nat.zero_le _,λj e=>absurd e (Nat.not_lt_zero j)⟩ bY ?_
     rintro y ⟨E,o⟩;simp only[go_sem,aD];refine aK (λq=>?_) (λq=>?_)
     ·have a:y<t.ak.length:=by simpa using q
      simp only[go_sem,aD,getD_map aL a,a,aL];refine aX (VX t g y a) (by simp only[go_sem,aD,getD_map aL a,a,aL]<;>rfl) (cc rfl) ?_;simp only[go_sem,aD,getD_map aL a,a,aL];refine aW (λb=>?_) (λb=>?_)<;>simp only[go_sem,aD,getD_map aL a,a,aL]
      ·have c:=b6 b;exact bO (y+1) ⟨a,all_succ o c⟩ (by omega) (by rw[bz a (by omega)];exact bY)
      ·have c:=dK b;rw[d,mJ (Nat.zero_le _) a (λj _=>o j) c];exact⟨rfl,rfl⟩
     ·have z:t.ak.length<=y:=by simpa using q
      simp only[go_sem,aD];rw[d,gQ λj _ e=>o j (by omega)];exact⟨rfl,rfl⟩
theorem sW{α:Type} [Inhabited α]{p:α->Bool}{l:List α}{x j:Nat}(b:j<x)(c:x<=l.length)(h:p (l.getD j default)=true):(l.take x).any p=true:=by
 have a:j<l.length:=by omega
 refine List.any_eq_true.2 ⟨l[j],List.mem_iff_getElem.2 ⟨j,by simp;omega,by simp⟩,?_⟩;simpa[a] using h
theorem oH{α:Type} [Inhabited α]{p:α->Bool}{l:List α}{x:Nat}(e:x<=l.length)(h:∀j,j<x->p (l.getD j default)=false):(l.take x).any p=false:=by
 rw[List.any_eq_false];intro a b;obtain⟨j,c,rfl⟩:=List.mem_iff_getElem.1 b;simp only[List.length_take] at c;have:=h j (by omega);have d:j<l.length:=by omega
 simpa[d] using this
theorem Jy{α:Type} [DecidableEq α]{a b:α}{c:Bool}(h:decide (a=b)=c):decide (b=a)=c:=by rw[<-h];simp[eq_comm]
theorem uL{p:Nat->Bool}{x:Nat}(h:∀j,j<x->p j=false)(b:p x=false):∀j,j<x+1->p j=false:=λj a=>by
 rcases Nat.lt_succ_iff_lt_or_eq.1 a with h'|h'
 ·exact h j h'
 ·rw[h'];exact b
theorem VY(l:List ByteArray)(hl:l.length<=25)(hw:∀s∈l,s.size<=40):aS pw 212 [.aV (l.map encS)] (λr=>r = .val (.int .i64 (Ar l))):=by
 unfold Ar;refine aR [] func212 ntmps212 results212 ?_;simp only[go_sem];refine aK (λf=>?_) (λf=>?_)<;>simp only[go_sem]
 ·have g:20<l.length:=by have:=b6 f;omega
  rw[if_pos g]
 ·have g:¬ 20<l.length:=by have:=dK f;omega
  rw[if_neg g];refine bL (σ:=Nat) (λx=>(cK (cK gv 0 (.p (.aV (l.map encS)))) 3 (.p (.val (.int .i64 x))))) (λx=>cu)
   (λx=>x<=l.length/\∀j,j<x->u7 l j=0) (λx=>l.length-x) 0 ⟨Nat.zero_le _,λj c=>absurd c (Nat.not_lt_zero j)⟩ bY ?_
  rintro x ⟨o,e⟩;simp only[go_sem];refine aK (λi=>?_) (λi=>?_)
  ·have a:x<l.length:=by simpa using i
   simp only[go_sem,getD_map encS a,a,encS];refine aX (xT (l.getD x default) (Nat.le_trans (hw _ (iA a)) (by decide))) (by simp only[go_sem,getD_map encS a,a,encS]<;>rfl) (cc rfl) ?_;simp only[go_sem,getD_map encS a,a,encS];refine aW (λd=>?_) (λd=>?_)<;>simp only[go_sem,getD_map encS a,a,encS]
   ·refine bL (σ:=Nat) (λy=>(cK (cK (cK gv 0 (.p (.aV (l.map encS)))) 3 (.p (.val (.int .i64 x)))) 4 (.p (.val (.int .i64 y))))) (λ_=>cu)
     (λy=>y<=x/\∀j,j<y->decide (l.getD x default=l.getD j default)=false) (λy=>x-y) 0 ⟨Nat.zero_le _,λj c=>absurd c (Nat.not_lt_zero j)⟩ bY ?_
    rintro y ⟨u,n⟩;simp only[go_sem,getD_map encS a,a,encS];refine aK (λm=>?_) (λm=>?_)
    ·have k:y<x:=by simpa using m
     have b:y<l.length:=by omega
     simp only[go_sem,getD_map encS a,a,encS,getD_map encS b,b];refine dB [.q,.q,.q,.q,.q,.q,.q,.q,.q] (by kernel_rfl) ?_;simp only[go_sem,getD_map encS a,a,encS,getD_map encS b,b];refine aK (λh=>?_) (λh=>?_)<;>simp only[go_sem,getD_map encS a,a,encS,getD_map encS b,b]
     ·have:u7 l x=5:=by unfold u7;rw[if_neg (by rw[d];decide),if_pos (sW k o (Jy h))]
      rw[sD a e (by rw[this];decide),this]
     ·exact bO (y+1) ⟨k,uL n (Jy h)⟩ (by omega) (by rw[bz k (by omega)];exact bY)
    ·have t:x<=y:=by simpa using m
     simp only[go_sem,getD_map encS a,a,encS];have:u7 l x=0:=by unfold u7;rw[if_neg (by rw[d];decide),if_neg (by rw[oH (p:=λz=>decide (l.getD x default=z)) o λj c=>n j (by omega)];decide)]
     exact bO (x+1) ⟨a,all_succ e this⟩ (by omega) (by rw[bz a (by omega)];exact bY)
   ·have:u7 l x=2:=by unfold u7;rw[if_pos d]
    rw[sD a e (by rw[this];decide),this]
  ·have t:l.length<=x:=by simpa using i
   simp only[go_sem];rw[uv λj c=>e j (by omega)]
theorem VZ(x:Attr)(f:FH x):aS pw 156 [.agg (aU x)] (λr=>r = .val (.int .i64 (u9 x))):=by
 have l:=f.names;refine aR [] func156 ntmps156 results156 ?_;simp only[go_sem,aU,cZ];have hw:i64.wrap ((x.names.length:Int)-1)=(x.names.length:Int)-1:=IntWalk.i64_in _ (by omega);have j:x.names.length=0->Ar x.names=0:=λh=>by have:x.names=[]:=List.length_eq_zero_iff.1 h;rw[this];try rfl
 refine aK (λc=>?_) (λc=>?_)<;>simp only[go_sem,aU,cZ]
 ·have k:=b6 c;have e:u9 x=if AR x=true then 0 else 6:=by unfold u9;rw[if_neg (by rw[j (by omega)];decide)]
  rw[e];refine aX (xC x.low (-1000000) 1000000) (by simp only[go_sem,aU,cZ]<;>rfl) (cc rfl) ?_;simp only[go_sem,aU,cZ];refine bR (λg=>?_) (λg=>?_)<;>simp only[go_sem,g,aU,cZ]
  ·refine aX (xC x.high x.low 1000000) (by simp only[go_sem,aU,cZ]<;>rfl) (cc rfl) ?_;simp only[go_sem,aU,cZ];refine aW (λa=>?_) (λa=>?_)<;>simp only[go_sem,aU,cZ]
   all_goals
    simp only[Bool.and_eq_true,Bool.and_eq_false_iff] at *;simp only[Bool.not_eq_true',Bool.not_eq_false',decide_eq_true_eq,decide_eq_false_iff_not,Decidable.not_not] at *;split<;>rename_i b<;>rw[sE] at b<;>omega
  ·simp only[Bool.and_eq_true,Bool.and_eq_false_iff] at *;simp only[Bool.not_eq_true',Bool.not_eq_false',decide_eq_true_eq,decide_eq_false_iff_not,Decidable.not_not] at *;split<;>rename_i b<;>rw[sE] at b<;>omega
 ·have k:=dK c;refine aX (VY x.names f.names f.word) (by simp only[go_sem,aU,cZ]<;>rfl) (cc rfl) ?_;simp only[go_sem,aU,cZ];refine aW (λa=>?_) (λa=>?_)<;>simp only[go_sem,aU,cZ]
  ·have d:=b6 a;have i:u9 x=if AR x=true then 0 else 6:=by unfold u9;rw[if_neg (by rw[d];decide)]
   rw[i]
   repeat' first|done|(refine bT (λh=>?_) (λh=>?_)<;>try simp only[go_sem,h,hw,aU,cZ])|(refine bR (λh=>?_) (λh=>?_)<;>try simp only[go_sem,h,hw,aU,cZ])|(refine aW (λh=>?_) (λh=>?_)<;>try simp only[go_sem,h,hw,aU,cZ])|(refine aK (λh=>?_) (λh=>?_)<;>try simp only[go_sem,h,hw,aU,cZ])
   all_goals
    simp only[Bool.not_eq_true',Bool.not_eq_false',decide_eq_true_eq,decide_eq_false_iff_not,Decidable.not_not] at *;split<;>rename_i b<;>rw[sE] at b<;>omega
  ·have d:=dK a;unfold u9;rw[if_pos d]
def B6(t:Types)(a:Int):List Attr:=if a<0 then [] else bg t a.toNat
theorem V0(t:Types)(a:Int)(c:a<0):bw pw 88 [aD t,.val (.int .i64 a)] (λr=>r = .row 138 4 []):=by
 refine bF [7] func88 ntmps88 results88 ?_;simp only[go_sem,aD];refine aK (λb=>?_) (λb=>?_)<;>simp only[go_sem]
 ·exact⟨by decide,_,.nil _ _ (by decide),rfl⟩
 ·have:=dK b;omega
theorem Jz(t:Types)(g:fK t):∀ (a:Nat),a<t.nodes.length->qT t (a+1)->bw pw 88 [aD t,.val (.int .i64 a)] (λr=>r = .row 138 4 ((bg t a).map aU)):=by
 intro a
 induction a using Nat.strongRecOn with
 |_ a n =>
  intro c f;have l:=f a (by omega);have o:=g.attrs _ (iA c);have k:=nq g c f;have i:bw pw 88 [aD t,.val (.int .i64 (t.nodes.getD a default).parent)] (λr=>r = .row 138 4 ((B6 t (t.nodes.getD a default).parent).map aU)):=by
   by_cases d:(t.nodes.getD a default).parent<0
   ·have:=V0 t _ d;unfold B6;rw[if_pos d];exact this
   ·obtain⟨q,h⟩:∃q:Nat,(t.nodes.getD a default).parent=q:=⟨_,(Int.toNat_of_nonneg (by omega)).symm⟩;unfold B6;rw[if_neg d,h,Int.toNat_natCast];have m:q<a:=by have:=l.2;rw[h] at this;omega
    exact n q m (by omega) (λj p=>f j (by omega))
  have e:bg t a=B6 t (t.nodes.getD a default).parent++(t.nodes.getD a default).attrs:=by
   rw[qp f];unfold B6;by_cases d:(t.nodes.getD a default).parent<0
   ·rw[if_pos d,if_neg (by omega)]
   ·rw[if_neg d,if_pos (by omega)]
  rw[e,List.length_append] at k;rw[e];refine bF [7] func88 ntmps88 results88 ?_;simp only[go_sem,aD,getD_map aJ c,c,aJ];refine aK (λd=>?_) (λd=>?_)<;>simp only[go_sem,getD_map aJ c,c,aJ]
  ·have:=b6 d;omega
  ·refine Ft [(1,.q),(2,.q),(3,.q),(4,.q),(5,.q),(6,.q),(7,.q),(8,.q),(10,.b),(11,.b),(12,.b),(13,.b),(14,.b),(15,.b),(0,.w),(9,.s),(16,.w),(17,.q)] (by kernel_rfl) ?_;simp only[go_sem,getD_map aJ c,c,aJ];refine jV (i.B2) (by simp only[go_sem,getD_map aJ c,c,aJ]<;>rfl) (y6) ?_;simp only[go_sem,getD_map aJ c,c,aJ];exact⟨⟨⟨_,rfl⟩,_,rfl⟩,⟨by omega,B5 _⟩,⟨by omega,B5 _⟩,by decide,_,.refl _,by rw[List.map_append]⟩
theorem V1(t:Types)(l:fK t)(i:Nat)(a:i<t.nodes.length)(Y:qT t i):aS pw 84 [aD t,.val (.int .i64 i)] (λr=>r = .val (.int .i64 (kQ t i))):=by
 have hn:=l.nodes;have k9:=l.attrs _ (iA a);refine aR [] func84 ntmps84 results84 ?_;simp only[go_sem,aD,getD_map aJ a,a,aJ];refine aX (xT (t.nodes.getD i default).name (Nat.le_trans (l.name _ (iA a)) (by decide))) (by simp only[go_sem,aD,getD_map aJ a,a,aJ]<;>rfl) (cc rfl) ?_;simp only[go_sem,aD,getD_map aJ a,a,aJ];refine aW (λo=>?_) (λo=>?_)<;>simp only[go_sem,aD,getD_map aJ a,a,aJ]
 ·refine bL (σ:=Nat) (λx=>(cK (cK (cK (cK gv 1 (.p (.val (.int .i64 i)))) 2 (.ptr 2 0)) 5 (.ptr 5 0)) 6 (.p (.val (.int .i64 x)))))
   (λx=>(bn (bn cu 2 (.box [.p (.aV (t.nodes.map aJ)),.p (.aV (t.ak.map aL))])) 5 (.box [.p (.val (.string (t.nodes.getD i default).name)),.p (.val (.int .i64 (t.nodes.getD i default).parent)),.p (.val (.bool (t.nodes.getD i default).abs)),.p (.aV ((t.nodes.getD i default).attrs.map aU))])))
   (λx=>x<=i/\∀j,j<x->decide ((t.nodes.getD j default).name=(t.nodes.getD i default).name)=false) (λx=>i-x) 0 ⟨Nat.zero_le _,λj c=>absurd c (Nat.not_lt_zero j)⟩ bY ?_
  rintro x ⟨K,Q⟩;simp only[go_sem,aD,getD_map aJ a,a,aJ];refine aK (λd=>?_) (λd=>?_)
  ·have B:x<i:=by simpa using d
   have m:x<t.nodes.length:=by omega
   simp only[go_sem,aD,getD_map aJ a,a,aJ,getD_map aJ m,m];refine dB [.q,.q,.q,.q,.q,.q,.q,.q,.q] (by kernel_rfl) ?_;simp only[go_sem,aD,getD_map aJ a,a,aJ,getD_map aJ m,m];refine aK (λC=>?_) (λC=>?_)<;>simp only[go_sem,aD,getD_map aJ a,a,aJ,getD_map aJ m,m]
   ·have:kQ t i=5:=by unfold kQ;rw[if_neg (by rw[o];decide),if_pos (sW (p:=λy:ic=>decide (y.name=(t.nodes.getD i default).name)) B (by omega) C)]
    rw[this]
   ·exact bO (x+1) ⟨B,uL Q C⟩ (by omega) (by rw[bz B (by omega)];exact bY)
  ·have X:i<=x:=by simpa using d
   have S:=oH (p:=λy:ic=>decide (y.name=(t.nodes.getD i default).name)) (Nat.le_of_lt a) λj c=>Q j (by omega)
   have M : kQ t i = if ¬ (-1 ≤ (t.nodes.getD i default).parent ∧ (t.nodes.getD i default).parent < i) then 6
     else if 4<(t.nodes.getD i default).attrs.length then 3 else if 8<(bg t i).length then 3
     else nJ (λk=>tu ((bg t i).take k) ((bg t i).getD k default)) ((bg t i).length-(t.nodes.getD i default).attrs.length) (bg t i).length:=by
    unfold kQ;rw[if_neg (by rw[o];decide),if_neg (by rw[S];decide)]
   rw[M];clear M;have Z:i64.wrap ((i:Int)-1)=(i:Int)-1:=IntWalk.i64_in _ (by omega);simp only[go_sem,Z,aD,getD_map aJ a,a,aJ];refine aX (xC (t.nodes.getD i default).parent (-1) (i-1)) (by simp only[go_sem,aD,getD_map aJ a,a,aJ]<;>rfl) (cc rfl) ?_;simp only[go_sem,aD,getD_map aJ a,a,aJ];refine aW (λD=>?_) (λD=>?_)<;>simp only[go_sem,aD,getD_map aJ a,a,aJ]
   ·simp only[Bool.and_eq_true,decide_eq_true_eq] at D;rw[if_neg (by omega)];have A:qT t (i+1):=λj c=>by
     rcases Nat.lt_succ_iff_lt_or_eq.1 c with h|h
     ·exact Y j h
     ·subst h;omega
    have ad:=nq l a A;have ab:(t.nodes.getD i default).attrs.length<=(bg t i).length:=by rw[qp A,List.length_append];omega
    generalize hs:(bg t i).length-(t.nodes.getD i default).attrs.length=s;have hw:i64.wrap (((bg t i).length:Int)-((t.nodes.getD i default).attrs.length:Int))=s:=by rw[IntWalk.i64_in _ (by omega)];omega
    refine aX ((Jz t l i a A).B2) (by simp only[go_sem,aD,getD_map aJ a,a,aJ]<;>rfl) (y6) ?_;simp only[go_sem,aD,getD_map aJ a,a,aJ];refine bT (λu=>?_) (λu=>?_)<;>simp only[go_sem,u,aD,getD_map aJ a,a,aJ]
    ·have U:=b6 u;rw[if_pos (by omega)]
    ·have U:=dK u;rw[if_neg (by omega)];refine aK (λE=>?_) (λE=>?_)<;>simp only[go_sem,aD,getD_map aJ a,a,aJ]
     ·have V:=b6 E;rw[if_pos (by omega)]
     ·have V:=dK E;rw[if_neg (by omega),hw];generalize W:(λk=>tu ((bg t i).take k) ((bg t i).getD k default))=f;refine bL (σ:=Nat) (λx=>(cK (cK (cK (cK (cK gv 1 (.p (.val (.int .i64 i)))) 2 (.ptr 2 0)) 5 (.ptr 5 0)) 7 (.p (.aV ((bg t i).map aU)))) 8 (.p (.val (.int .i64 x)))))
       (λx=>(bn (bn cu 2 (.box [.p (.aV (t.nodes.map aJ)),.p (.aV (t.ak.map aL))])) 5 (.box [.p (.val (.string (t.nodes.getD i default).name)),.p (.val (.int .i64 (t.nodes.getD i default).parent)),.p (.val (.bool (t.nodes.getD i default).abs)),.p (.aV ((t.nodes.getD i default).attrs.map aU))])))
       (λx=>(s<=x/\x<=(bg t i).length)/\∀j,s<=j->j<x->f j=0) (λx=>(bg t i).length-x) s ⟨⟨Nat.le_refl _,by omega⟩,λj c w=>absurd w (by omega)⟩ bY ?_
      rintro x ⟨⟨J,K⟩,n⟩;simp only[go_sem,aD,getD_map aJ a,a,aJ];refine aK (λd=>?_) (λd=>?_)
      ·have b:x<(bg t i).length:=by have:=b6 d;omega
       have P:=l.Dl a A (iA b);have e:f x=tu ((bg t i).take x) ((bg t i).getD x default):=by rw[<-W]
       simp only[go_sem,aD,getD_map aJ a,a,aJ,getD_map aU b,b,aU];refine aX (xT ((bg t i).getD x default).name (Nat.le_trans P.name (by decide))) (by simp only[go_sem,aD,getD_map aJ a,a,aJ,getD_map aU b,b,aU]<;>rfl) (cc rfl) ?_;simp only[go_sem,aD,getD_map aJ a,a,aJ,getD_map aU b,b,aU];refine aW (λv=>?_) (λv=>?_)<;>simp only[go_sem,aD,getD_map aJ a,a,aJ,getD_map aU b,b,aU]
       ·refine bL (σ:=Nat) (λy=>(cK (cK (cK (cK (cK (cK gv 1 (.p (.val (.int .i64 i)))) 2 (.ptr 2 0)) 5 (.ptr 5 0)) 7 (.p (.aV ((bg t i).map aU)))) 8 (.p (.val (.int .i64 x)))) 9 (.p (.val (.int .i64 y)))))
         (λx=>(bn (bn cu 2 (.box [.p (.aV (t.nodes.map aJ)),.p (.aV (t.ak.map aL))])) 5 (.box [.p (.val (.string (t.nodes.getD i default).name)),.p (.val (.int .i64 (t.nodes.getD i default).parent)),.p (.val (.bool (t.nodes.getD i default).abs)),.p (.aV ((t.nodes.getD i default).attrs.map aU))])))
         (λy=>y<=x/\∀j,j<y->decide (((bg t i).getD j default).name=((bg t i).getD x default).name)=false) (λy=>x-y) 0 ⟨Nat.zero_le _,λj c=>absurd c (Nat.not_lt_zero j)⟩ bY ?_
        rintro y ⟨hy,R⟩;simp only[go_sem,aD,getD_map aJ a,a,aJ,getD_map aU b,b,aU];refine aK (λL=>?_) (λL=>?_)
        ·have I:y<x:=by simpa using L
         have g:y<(bg t i).length:=by omega
         simp only[go_sem,aD,getD_map aJ a,a,aJ,getD_map aU b,b,aU,getD_map aU g,g];refine dB [.q,.q,.q,.q,.q,.q,.q,.q,.q,.q,.q] (by kernel_rfl) ?_;simp only[go_sem,aD,getD_map aJ a,a,aJ,getD_map aU b,b,aU,getD_map aU g,g];refine aK (λF=>?_) (λF=>?_)<;>simp only[go_sem,aD,getD_map aJ a,a,aJ,getD_map aU b,b,aU,getD_map aU g,g]
         ·have O:f x=5:=by rw[e];unfold tu;rw[if_neg (by rw[v];decide),if_pos (sW (p:=λz:Attr=>decide (z.name=((bg t i).getD x default).name)) I K F)]
          rw[w8 J b n (by rw[O];decide),O]
         ·exact bO (y+1) ⟨I,uL R F⟩ (by omega) (by rw[bz I (by omega)];exact bY)
        ·have aa:x<=y:=by simpa using L
         have T:f x=u9 ((bg t i).getD x default):=by rw[e];unfold tu;rw[if_neg (by rw[v];decide),if_neg (by rw[oH (p:=λz:Attr=>decide (z.name=((bg t i).getD x default).name)) K λj c=>R j (by omega)];decide)]
         simp only[go_sem,aD,getD_map aJ a,a,aJ,getD_map aU b,b,aU];refine aX (VZ ((bg t i).getD x default) P) (by simp only[go_sem,aD,getD_map aJ a,a,aJ,getD_map aU b,b,aU]<;>rfl) (cc rfl) ?_;simp only[go_sem,aD,getD_map aJ a,a,aJ,getD_map aU b,b,aU];rw[<-T];refine aW (λG=>?_) (λG=>?_)<;>simp only[go_sem,aD,getD_map aJ a,a,aJ,getD_map aU b,b,aU]
         ·have H:=b6 G;exact bO (x+1) ⟨⟨by omega,b⟩,λj c w=>by
           rcases Nat.lt_succ_iff_lt_or_eq.1 w with h|h
           ·exact n j c h
           ·rw[h];exact H⟩ (by omega) (by rw[bz b (by omega)];exact bY)
         ·have H:=dK G;rw[w8 J b n H]
       ·have N:f x=2:=by rw[e];unfold tu;rw[if_pos v]
        rw[w8 J b n (by rw[N];decide),N]
      ·have X:(bg t i).length<=x:=by have:=dK d;omega
       simp only[go_sem,aD,getD_map aJ a,a,aJ];rw[qz λj c w=>n j c (by omega)]
   ·simp only[Bool.and_eq_false_iff,decide_eq_false_iff_not] at D;rw[if_pos (by omega)]
 ·unfold kQ;rw[if_pos o]
section
variable{α:Type} [Inhabited α]
def wF(l:List α)(i:Nat):List α:=(List.range l.length).map λk=>if k<i\/l.length-1-i<k then l.getD (l.length-1-k) default else l.getD k default
theorem Dm(l:List α)(i:Nat):(wF l i).length=l.length:=by simp[wF]
theorem V2(l:List α):wF l 0=l:=by
 apply List.ext_getElem
 ·simp[wF]
 ·intro k b a;simp only[wF,List.getElem_map,List.getElem_range,Nat.not_lt_zero,false_or,Nat.sub_zero];rw[if_neg (by omega)];simp[a]
theorem V3(l:List α)(i:Nat)(h:l.length<=2 * i+1):wF l i=l.reverse:=by
 apply List.ext_getElem
 ·simp[wF]
 ·intro k d a;have c:k<l.length:=by simpa using a
  simp only[wF,List.getElem_map,List.getElem_range,List.getElem_reverse];have b:l.length-1-k<l.length:=by omega
  split
  ·simp[b]
  ·have e:k=l.length-1-k:=by omega
   have:l[l.length-1-k]=l[k]:=by congr 1;omega
   rw[this];simp[c]
theorem JA(l:List α)(i k:Nat)(a:k<l.length):(wF l i).getD k default=if k<i\/l.length-1-i<k then l.getD (l.length-1-k) default else l.getD k default:=by simp only[wF,List.getD_eq_getElem?_getD,List.getElem?_map,List.getElem?_range a,Option.map_some,Option.getD_some]
theorem V4(l:List α)(i:Nat)(h:2 * i+1<l.length):((wF l i).set i (l.getD (l.length-1-i) default)).set (l.length-1-i) (l.getD i default)=wF l (i+1):=by
 apply List.ext_getElem
 ·simp[wF]
 ·intro k c b;have d:k<l.length:=by simpa[wF] using b
  simp only[List.getElem_set,wF,List.getElem_map,List.getElem_range];split
  ·rename_i e;rw[if_pos (by omega)];congr 1;omega
  ·split
   ·rename_i e;rw[if_pos (by omega),e]
   ·by_cases a:k<i\/l.length-1-i<k
    ·rw[if_pos a,if_pos (by omega)]
    ·rw[if_neg a,if_neg (by omega)]
end
theorem JB(l:List Int)(k:Nat)(y:Int):(l.map encI).set k [PV.val (.int .i64 y)]=(l.set k y).map encI:=by rw[List.map_set];try rfl
theorem V5(l:List Int)(hl:l.length<=1000000)(v:Nat):kZ pw 376 v 3 1 (l.map encI) [] (λa c=>a = .dY []/\c=some (.row v 3 1 (l.reverse.map encI))):=by
 refine nk [] Ty.mixed func376 rfl (by kernel_rfl) (by simp[ntmps376]) ?_;rw[ntmps376,results376];simp only[go_sem];have hw:i64.wrap ((l.length:Int)-1)=(l.length:Int)-1:=IntWalk.i64_in _ (by omega);rw[hw];refine bL (σ:=Nat) (λx=>(cK (cK (cK gv 0 (.row 1000000 v)) 2 (.p (.val (.int .i64 x)))) 3 (.p (.val (.int .i64 ((l.length:Int)-1-x)))))) (λx=>(bn cu 1000000 (.row v 3 1 ((wF l x).map encI))))
  (λx=>2 * x<=l.length+1) (λx=>l.length-2 * x) 0 (by omega) ?_ ?_
 ·rw[V2];exact bY
 rintro x o;simp only[go_sem];refine aK (λe=>?_) (λe=>?_)
 ·have n:=b6 e;have b:x<l.length:=by omega
  have h:((l.length:Int)-1-x).toNat=l.length-1-x:=by omega
  have d:l.length-1-x<l.length:=by omega
  have i:x<(wF l x).length:=by rw[Dm];exact b
  have f:l.length-1-x<(wF l x).length:=by rw[Dm];exact d
  have j:(wF l x).getD (l.length-1-x) default=l.getD (l.length-1-x) default:=by rw[JA l x _ d,if_neg (by omega)]
  have k:(wF l x).getD x default=l.getD x default:=by rw[JA l x _ b,if_neg (by omega)]
  have g:l.length-1-x<((wF l x).set x (l.getD (l.length-1-x) default)).length:=by rw[List.length_set];exact f
  simp only[go_sem,j,k,JB,getD_map encI g,h,getD_map encI i,getD_map encI f,encI,Dm,List.length_set];refine dB [.q,.q,.p,.p,.q,.q,.q,.q,.q,.q,.q,.q,.q,.w,.q,.w] (by kernel_rfl) ?_;simp only[go_sem,j,k,JB,getD_map encI g,h,getD_map encI i,getD_map encI f,encI,Dm,List.length_set];refine⟨by omega,d,b,b,b,b,by omega,d,?_⟩;rw[V4 l x (by omega),bz (show x<l.length from b) (by omega)];have m:i64.wrap ((l.length:Int)-1-x-1)=(l.length:Int)-1-((x+1:Nat):Int):=by rw[IntWalk.i64_in _ (by omega)];omega
  rw[m];exact bO (x+1) (by omega) (by omega) bY
 ·have n:=dK e;simp only[go_sem];rw[V3 l x (by omega)]
theorem V6(l:List Int):∀x∈l.map encI,x.length=1:=by intro x b;obtain⟨a,_,rfl⟩:=List.mem_map.1 b;rfl
theorem JC(l:List Int)(hl:l.length<=1000000):bw pw 229 [.aV (l.map encI)] (λr=>r = .row 3 1 (l.map encI)):=by
 by_cases b:l=[]
 ·subst b;refine bw.uu (by kernel_rfl) λc cap=>?_
  refine bF [5] func229 ntmps229 results229 ?_;simp only[go_sem];cases c with
  |none=>simp only[go_sem];exact⟨by decide,_,.nil _ _ (by decide),rfl⟩
  |some a=>simp only[go_sem];exact⟨λ_ h=>h.elim,by decide,_,.refl _,rfl⟩
 ·have d:l.map encI≠[]:=by simpa using b
  refine bF [5] func229 ntmps229 results229 ?_;simp only[go_sem,d];exact⟨⟨by omega,V6 l⟩,by decide,_,.refl _,rfl⟩
theorem JD(l:List ByteArray):∀x∈l.map encS,x.length=1:=by intro x b;obtain⟨a,_,rfl⟩:=List.mem_map.1 b;rfl
theorem V7(l:List ByteArray)(hl:l.length<=1000000):bw pw 332 [.aV (l.map encS)] (λr=>r = .row 9 1 (l.map encS)):=by
 by_cases b:l=[]
 ·subst b;refine bw.uu (by kernel_rfl) λc cap=>?_
  refine bF [5] func332 ntmps332 results332 ?_;simp only[go_sem];cases c with
  |none=>simp only[go_sem];exact⟨by decide,_,.nil _ _ (by decide),rfl⟩
  |some a=>simp only[go_sem];exact⟨λ_ h=>h.elim,by decide,_,.refl _,rfl⟩
 ·have d:l.map encS≠[]:=by simpa using b
  refine bF [5] func332 ntmps332 results332 ?_;simp only[go_sem,d];exact⟨⟨by omega,JD l⟩,by decide,_,.refl _,rfl⟩
theorem V8(t:Types)(h:fK t)(i:Nat)(a:i<t.ak.length):aS pw 85 [aD t,.val (.int .i64 i)] (λr=>r = .val (.int .i64 (oq t i))):=by
 have A:=h.ak;have B:=h.nodes;refine aR [] func85 ntmps85 results85 ?_;simp only[go_sem,aD,getD_map aL a,a,aL];refine aX (xT (t.ak.getD i default).name (Nat.le_trans (h.HK _ (iA a)) (by decide))) (by simp only[go_sem,aD,getD_map aL a,a,aL]<;>rfl) (cc rfl) ?_;simp only[go_sem,aD,getD_map aL a,a,aL];refine aW (λc=>?_) (λc=>?_)<;>simp only[go_sem,aD,getD_map aL a,a,aL]
 ·refine bL (σ:=Nat) (λx=>(cK (cK (cK (cK gv 1 (.p (.val (.int .i64 i)))) 2 (.ptr 2 0)) 5 (.ptr 5 0)) 6 (.p (.val (.int .i64 x)))))
   (λx=>(bn (bn cu 2 (.box [.p (.aV (t.nodes.map aJ)),.p (.aV (t.ak.map aL))])) 5 (.box [.p (.val (.string (t.ak.getD i default).name)),.p (.val (.int .i64 (t.ak.getD i default).src)),.p (.val (.int .i64 (t.ak.getD i default).dst)),.p (.val (.int .i64 (t.ak.getD i default).nI)),.p (.val (.int .i64 (t.ak.getD i default).j9)),.p (.val (.int .i64 (t.ak.getD i default).tq)),.p (.val (.int .i64 (t.ak.getD i default).og))])))
   (λx=>x<=i/\∀j,j<x->decide ((t.ak.getD j default).name=(t.ak.getD i default).name)=false) (λx=>i-x) 0 ⟨Nat.zero_le _,λj u=>absurd u (Nat.not_lt_zero j)⟩ bY ?_
  rintro x ⟨C,v⟩;simp only[go_sem,aD,getD_map aL a,a,aL];refine aK (λg=>?_) (λg=>?_)
  ·have d:x<i:=by simpa using g
   have b:x<t.ak.length:=by omega
   simp only[go_sem,aD,getD_map aL a,a,aL,getD_map aL b,b];refine dB [.q,.q,.q,.q,.q,.q,.q,.q,.q] (by kernel_rfl) ?_;simp only[go_sem,aD,getD_map aL a,a,aL,getD_map aL b,b];refine aK (λe=>?_) (λe=>?_)<;>simp only[go_sem,aD,getD_map aL a,a,aL,getD_map aL b,b]
   ·have:oq t i=5:=by unfold oq;rw[if_neg (by rw[c];decide),if_pos (sW (p:=λy:mI=>decide (y.name=(t.ak.getD i default).name)) d (by omega) e)]
    rw[this]
   ·exact bO (x+1) ⟨d,uL v e⟩ (by omega) (by rw[bz d (by omega)];exact bY)
  ·have z:i<=x:=by simpa using g
   have w:=oH (p:=λy:mI=>decide (y.name=(t.ak.getD i default).name)) (Nat.le_of_lt a) λj u=>v j (by omega)
   have k:oq t i=if ((hM t (t.ak.getD i default).src&&hM t (t.ak.getD i default).dst)&&(wD (t.ak.getD i default).nI (t.ak.getD i default).j9&&wD (t.ak.getD i default).tq (t.ak.getD i default).og))=true then 0 else 6:=by unfold oq;rw[if_neg (by rw[c];decide),if_neg (by rw[w];decide)]
   rw[k];clear k;have hw:i64.wrap ((t.nodes.length:Int)-1)=(t.nodes.length:Int)-1:=IntWalk.i64_in _ (by omega);have s:∀n:Int,(decide (0<=n)&&decide (n<=(t.nodes.length:Int)-1))=hM t n:=λn=>by unfold hM;congr 1;rw[decide_eq_decide];omega
   simp only[go_sem,aD,getD_map aL a,a,aL,hw];refine aX (xC (t.ak.getD i default).src 0 ((t.nodes.length:Int)-1)) (by simp only[go_sem,aD,getD_map aL a,a,aL,hw]<;>rfl) (cc rfl) ?_;simp only[go_sem,s,aD,getD_map aL a,a,aL,hw];refine bR (λf=>?_) (λf=>?_)<;>simp only[go_sem,f,aD,getD_map aL a,a,aL,hw]
   refine aX (xC (t.ak.getD i default).dst 0 ((t.nodes.length:Int)-1)) (by simp only[go_sem,aD,getD_map aL a,a,aL,hw]<;>rfl) (cc rfl) ?_;simp only[go_sem,s,f,aD,getD_map aL a,a,aL,hw];refine bR (λl=>?_) (λl=>?_)<;>simp only[go_sem,l,aD,getD_map aL a,a,aL,hw]
   refine aX (Jn (t.ak.getD i default).nI (t.ak.getD i default).j9) (by simp only[go_sem,aD,getD_map aL a,a,aL,hw]<;>rfl) (cc rfl) ?_;simp only[go_sem,aD,getD_map aL a,a,aL,hw];refine bR (λm=>?_) (λm=>?_)<;>simp only[go_sem,m,aD,getD_map aL a,a,aL,hw]
   refine aX (Jn (t.ak.getD i default).tq (t.ak.getD i default).og) (by simp only[go_sem,aD,getD_map aL a,a,aL,hw]<;>rfl) (cc rfl) ?_;simp only[go_sem,aD,getD_map aL a,a,aL,hw];refine aW (λo=>?_) (λo=>?_)<;>simp only[go_sem,o,aD,getD_map aL a,a,aL,hw]
 ·unfold oq;rw[if_pos c]
theorem FJ(t:Types)(g:fK t):aS pw 43 [aD t] (λr=>r = .dY [.val (.string (gR t).1),.val (.int .i64 (gR t).2)]):=by
 have C:=g.nodes;have B:=g.ak;refine aR [] func43 ntmps43 results43 ?_;simp only[go_sem,aD];refine aK (λl=>?_) (λl=>?_)<;>simp only[go_sem,aD]
 ·have A:=b6 l;unfold gR;rw[if_pos (by omega)];exact⟨rfl,rfl⟩
 ·have A:=dK l;have s:t.nodes.length≠0:=by omega
  have yJ:12<t.nodes.length\/20<t.ak.length->gR t=(⟨#[]⟩,3):=λh=>by unfold gR;rw[if_neg s,if_pos h]
  refine bT (λf=>?_) (λf=>?_)<;>simp only[go_sem,f,aD]
  ·have u:=b6 f;rw[yJ (by omega)];exact⟨rfl,rfl⟩
  ·have u:=dK f;refine aK (λm=>?_) (λm=>?_)<;>simp only[go_sem,aD]
   ·have v:=b6 m;rw[yJ (by omega)];exact⟨rfl,rfl⟩
   ·have v:=dK m
    have d : gR t = match kH (kQ t) 0 t.nodes.length with
      |some k=>((t.nodes.getD k default).name,kQ t k)
      |none=>match kH (oq t) 0 t.ak.length with
       |some k=>((t.ak.getD k default).name,oq t k)
       |none=>(⟨#[]⟩,0):=by unfold gR;rw[if_neg s,if_neg (by omega)];try rfl
    clear yJ;refine bL (σ:=Nat) (λx=>(cK (cK gv 1 (.ptr 1 0)) 4 (.p (.val (.int .i64 x)))))
     (λx=>(bn cu 1 (.box [.p (.aV (t.nodes.map aJ)),.p (.aV (t.ak.map aL))])))
     (λx=>x<=t.nodes.length/\∀j,j<x->kQ t j=0) (λx=>t.nodes.length-x) 0 ⟨Nat.zero_le _,λj e=>absurd e (Nat.not_lt_zero j)⟩ bY ?_
    rintro x ⟨D,i⟩;simp only[go_sem,aD];refine aK (λn=>?_) (λn=>?_)
    ·have a:x<t.nodes.length:=by simpa using n
     simp only[go_sem,aD,getD_map aJ a,a,aJ];refine aX (V1 t g x a (FI i)) (by simp only[go_sem,aD,getD_map aJ a,a,aJ]<;>rfl) (cc rfl) ?_;simp only[go_sem,aD,getD_map aJ a,a,aJ];refine aW (λb=>?_) (λb=>?_)<;>simp only[go_sem,aD,getD_map aJ a,a,aJ]
     ·have c:=b6 b;exact bO (x+1) ⟨a,all_succ i c⟩ (by omega) (by rw[bz a (by omega)];exact bY)
     ·have c:=dK b;rw[d,mJ (Nat.zero_le _) a (λj _=>i j) c];exact⟨rfl,rfl⟩
    ·have z:t.nodes.length<=x:=by simpa using n
     have w:kH (kQ t) 0 t.nodes.length=none:=gQ λj _ e=>i j (by omega)
     rw[w] at d;simp only[] at d;simp only[go_sem,aD];refine bL (σ:=Nat) (λx=>(cK (cK gv 1 (.ptr 1 0)) 6 (.p (.val (.int .i64 x)))))
      (λx=>(bn cu 1 (.box [.p (.aV (t.nodes.map aJ)),.p (.aV (t.ak.map aL))])))
      (λx=>x<=t.ak.length/\∀j,j<x->oq t j=0) (λx=>t.ak.length-x) 0 ⟨Nat.zero_le _,λj e=>absurd e (Nat.not_lt_zero j)⟩ bY ?_
     rintro y ⟨E,o⟩;simp only[go_sem,aD];refine aK (λq=>?_) (λq=>?_)
     ·have a:y<t.ak.length:=by simpa using q
      simp only[go_sem,aD,getD_map aL a,a,aL];refine aX (V8 t g y a) (by simp only[go_sem,aD,getD_map aL a,a,aL]<;>rfl) (cc rfl) ?_;simp only[go_sem,aD,getD_map aL a,a,aL];refine aW (λb=>?_) (λb=>?_)<;>simp only[go_sem,aD,getD_map aL a,a,aL]
      ·have c:=b6 b;exact bO (y+1) ⟨a,all_succ o c⟩ (by omega) (by rw[bz a (by omega)];exact bY)
      ·have c:=dK b;rw[d,mJ (Nat.zero_le _) a (λj _=>o j) c];exact⟨rfl,rfl⟩
     ·have z:t.ak.length<=y:=by simpa using q
      simp only[go_sem,aD];rw[d,gQ λj _ e=>o j (by omega)];exact⟨rfl,rfl⟩
theorem tv{f:Nat->Int}{s n k:Nat}(h:kH f s n=some k):f k≠0:=by unfold kH at h;have:=List.find?_some h;simpa using this
theorem vb{f:Nat->Int}{n:Nat}(h:kH f 0 n=none):∀j,j<n->f j=0:=by intro j a;unfold kH at h;rw[List.find?_eq_none] at h;have:=h j (by rw[List.mem_range'_1];omega);simpa using this
structure eE(t:Types):Prop where
 vG:fK t
 pos:0<t.nodes.length
 n12:t.nodes.length<=12
 m20:t.ak.length<=20
 node:∀j,j<t.nodes.length->kQ t j=0
 fq:∀j,j<t.ak.length->oq t j=0
theorem qU{t:Types}(d:fK t)(h:(gR t).2=0):eE t:=by
 unfold gR at h;split at h
 ·cases h
 ·split at h
  ·cases h
  ·split at h
   ·rename_i a;exact absurd h (tv a)
   ·split at h
    ·rename_i a;exact absurd h (tv a)
    ·rename_i e f _ b _ c;exact⟨d,by omega,by omega,by omega,vb b,vb c⟩
theorem eE.par{t:Types}(h:eE t):qT t t.nodes.length:=FI h.node
theorem eE.par'{t:Types}(h:eE t){a:Nat}(b:a<t.nodes.length):qT t (a+1):=λj c=>h.par j (by omega)
theorem eE.ends{t:Types}(h:eE t){i:Nat}(b:i<t.ak.length):hM t (t.ak.getD i default).src=true/\hM t (t.ak.getD i default).dst=true:=by
 have:=h.fq i b;unfold oq at this;split at this
 ·cases this
 ·split at this
  ·cases this
  ·split at this
   ·rename_i a;simp only[Bool.and_eq_true] at a;exact a.1
   ·cases this
theorem xU{t:Types}{n:Int} : hM t n=true↔0<=n/\n<t.nodes.length:=by unfold hM;simp only[Bool.and_eq_true,decide_eq_true_eq]
def q8(t:Types):Nat->Int->List Int
 |0,_=>[]
 |k+1,a=>if a<0 then [] else a :: q8 t k (t.nodes.getD a.toNat default).parent
def q9(t:Types)(a:Int):List Int:=q8 t (a.toNat+1) a
def ko(t:Types)(a b:Int):Bool:=(q9 t a).any λx=>decide (x=b)
theorem FK{t:Types}{a:Int}(h:a<0):q9 t a=[]:=by unfold q9 q8;rw[if_pos h]
theorem JE{t:Types} : ∀ (k b:Nat) (a:Int),(∀j:Nat,(j:Int)<=a->-1<=(t.nodes.getD j default).parent/\(t.nodes.getD j default).parent<j)->a<k->a<b->0<k->0<b->q8 t k a=q8 t b a
 |0,_,_,_,_,_,h,_=>by omega
 |_+1,0,_,_,_,_,_,h=>by omega
 |k+1,b+1,a,c,h,d,_,_=>by
  unfold q8;split
  ·rfl
  ·rename_i e;have g:=c a.toNat (by omega);congr 1;cases k with
   |zero =>
    cases b with
    |zero=>rfl
    |succ b =>
     have:(t.nodes.getD a.toNat default).parent<0:=by omega
     unfold q8;rw[if_pos this]
   |succ k =>
    cases b with
    |zero =>
     have:(t.nodes.getD a.toNat default).parent<0:=by omega
     unfold q8;rw[if_pos this]
    |succ b=>exact JE (k+1) (b+1) _ (λj f=>c j (by omega)) (by omega) (by omega) (by omega) (by omega)
theorem JF{t:Types}{a:Nat}(c:qT t (a+1)):q9 t a=(a:Int) :: q9 t (t.nodes.getD a default).parent:=by
 have f:=c a (by omega);have e:q9 t a=(a:Int) :: q8 t a (t.nodes.getD a default).parent:=by
  unfold q9;rw[Int.toNat_natCast]
  conv=>lhs;unfold q8
  rw[if_neg (by omega),Int.toNat_natCast]
 rw[e];congr 1;by_cases b:(t.nodes.getD a default).parent<0
 ·rw[FK b];cases a with
  |zero=>rfl
  |succ a=>unfold q8;rw[if_pos b]
 ·unfold q9;exact JE _ _ _ (λj d=>c j (by omega)) (by omega) (by omega) (by omega) (by omega)
theorem JG{t:Types}{a b:Int}(h:a<0):ko t a b=false:=by unfold ko;rw[FK h];try rfl
theorem JH{t:Types}{a:Nat}(c:qT t (a+1))(b:Int):ko t a b=(decide ((a:Int)=b)||ko t (t.nodes.getD a default).parent b):=by unfold ko;rw[JF c];try rfl
def qV(t:Types)(l:List Int):Int:=if (gR t).2≠0 then (gR t).2 else if l.any (λa=>!hM t a)=true then 6 else 0
theorem FL(t:Types)(b:Int)(k:0<=b)(s:fK t):∀ (n:Nat) (a:Int),a<n->-1<=a->a<t.nodes.length->qT t t.nodes.length->aS pw 90 [aD t,.val (.int .i64 a),.val (.int .i64 b)] (λr=>r = .val (.bool (ko t a b))):=by
 intro n
 induction n with
 |zero =>
  intro a m i hl f;rw[JG (by omega)];refine aR [] func90 ntmps90 results90 ?_;simp only[go_sem,aD];refine dB [.q,.q,.q,.q,.q,.q,.q,.q,.q,.q,.q,.q,.q,.q,.q,.q,.q,.q,.q] (by kernel_rfl) ?_;simp only[go_sem];refine pY (λc=>?_) (λc=>?_)<;>simp only[go_sem,c]
  ·have:=b6 c;omega
  ·refine oW (λd=>?_) (λd=>?_)<;>simp only[go_sem,c,d]
   have:=b6 d;omega
 |succ n p =>
  intro a m i hl f;refine aR [] func90 ntmps90 results90 ?_;simp only[go_sem,aD];refine dB [.q,.q,.q,.q,.q,.q,.q,.q,.q,.q,.q,.q,.q,.q,.q,.q,.q,.q,.q] (by kernel_rfl) ?_;simp only[go_sem,aD];refine pY (λc=>?_) (λc=>?_)<;>simp only[go_sem,c,aD]
  ·have h:=b6 c;subst h;obtain⟨q,rfl⟩:∃q:Nat,a=q:=⟨_,(Int.toNat_of_nonneg k).symm⟩;rw[JH (λj l=>f j (by omega))];simp
  ·have h:=dK c;refine oW (λd=>?_) (λd=>?_)<;>simp only[go_sem,c,d,aD]
   ·have g:=b6 d;obtain⟨q,rfl⟩:∃q:Nat,a=q:=⟨_,(Int.toNat_of_nonneg g).symm⟩;have e:q<t.nodes.length:=by omega
    have o:=f q e;simp only[go_sem,aD,getD_map aJ e,e,aJ];refine jV (p (t.nodes.getD q default).parent (by omega) o.1 (by omega) f) (by simp only[go_sem,aD,getD_map aJ e,e,aJ]<;>rfl) (cc rfl) ?_;simp only[go_sem,c,d,aD,getD_map aJ e,e,aJ];rw[JH (λj l=>f j (by omega)),c,Bool.false_or]
   ·have g:=dK d;rw[JG (by omega)]
theorem V9(t:Types)(n:Int):aS pw 333 [.val (.int .i64 n),.eF [.aV (t.nodes.map aJ),.aV (t.ak.map aL)] 0] (λr=>r = .val (.bool (!hM t n))):=by
 refine aR [] func333 ntmps333 results333 ?_;simp only[go_sem];unfold hM
 repeat' first|done|(refine bT (λh=>?_) (λh=>?_)<;>try simp only[go_sem,h])|(refine bR (λh=>?_) (λh=>?_)<;>try simp only[go_sem,h])|(refine aW (λh=>?_) (λh=>?_)<;>try simp only[go_sem,h])|(refine aK (λh=>?_) (λh=>?_)<;>try simp only[go_sem,h])
 all_goals(simp only[decide_eq_true_eq,decide_eq_false_iff_not,Bool.not_eq_true',Bool.not_eq_false'] at *;rw[Bool.eq_iff_iff];simp only[Bool.not_eq_true',Bool.not_eq_false',Bool.and_eq_true,Bool.or_eq_true,Bool.and_eq_false_iff,Bool.or_eq_false_iff,decide_eq_true_eq,decide_eq_false_iff_not,Bool.false_eq_true,true_iff,iff_true,false_iff,iff_false];omega)
theorem FM(t:Types)(e:fK t)(l:List Int)(hl:l.length<=1000000):aS pw 283 [aD t,.aV (l.map encI)] (λr=>r = .val (.int .i64 (qV t l))):=by
 unfold qV;refine aR [] func283 ntmps283 results283 ?_;simp only[go_sem,aD];refine aX (Jx t e) (by simp only[go_sem,aD]<;>rfl) (cc rfl) ?_;simp only[go_sem,aD];refine aW (λb=>?_) (λb=>?_)<;>simp only[go_sem,aD]
 ·have d:=b6 b;rw[if_neg (by rw[d];decide)];refine aX (Jp (λa=>!hM t a) l hl _ [] [.eF [.aV (t.nodes.map aJ),.aV (t.ak.map aL)] 0] (λy _=>V9 t y)) (by simp only[go_sem,aD]<;>rfl) (cc rfl) ?_;simp only[go_sem,aD];refine aK (λc=>?_) (λc=>?_)<;>simp only[go_sem,aD]
  ·rw[if_pos c]
  ·rw[if_neg (by rw[c];decide)]
 ·have d:=dK b;rw[if_pos d]
theorem JI(t:Types)(g:fK t)(a b:Int):aS pw 87 [aD t,.val (.int .i64 a),.val (.int .i64 b)] (λr=>r = .val (.int .i64 (qV t [a,b]))):=by
 have i:=g.nodes;have hw:i64.wrap ((t.nodes.length:Int)-1)=(t.nodes.length:Int)-1:=IntWalk.i64_in _ (by omega);have h:∀n:Int,(decide (0<=n)&&decide (n<=(t.nodes.length:Int)-1))=hM t n:=λn=>by unfold hM;congr 1;rw[decide_eq_decide];omega
 unfold qV;refine aR [] func87 ntmps87 results87 ?_;simp only[go_sem,aD];refine aX (FJ t g) (by simp only[go_sem,aD]<;>rfl) (cc rfl) ?_;simp only[go_sem,aD];refine aW (λd=>?_) (λd=>?_)<;>simp only[go_sem,aD]
 ·have f:=b6 d;rw[if_neg (by rw[f];decide)];simp only[go_sem,hw,aD];refine aX (xC a 0 ((t.nodes.length:Int)-1)) (by simp only[go_sem,aD]<;>rfl) (cc rfl) ?_;simp only[go_sem,h,aD];refine bR (λc=>?_) (λc=>?_)<;>simp only[go_sem,c,hw,aD]
  case refine_2=>simp[c]
  refine aX (xC b 0 ((t.nodes.length:Int)-1)) (by simp only[go_sem,aD]<;>rfl) (cc rfl) ?_;simp only[go_sem,h,aD];refine aW (λe=>?_) (λe=>?_)<;>simp only[go_sem,e,aD]
  all_goals simp[c,e]
 ·have f:=dK d;rw[if_pos f]
theorem Wa(t:Types)(f:eE t)(a:Nat)(n:a<t.nodes.length):aS pw 334 [aD t,.val (.int .i64 a)] (λr=>r = .aV ((q9 t a).reverse.map encI)):=by
 have o:=f.n12;refine aR [] func334 ntmps334 results334 ?_;simp only[go_sem,aD];refine bL (σ:=Int×List Int×Nat) (λx=>(cK (cK (cK gv 1 (.p (.val (.int .i64 x.1)))) 2 (.ptr 2 0)) 5 (.row 5 x.2.2)))
  (λx=>(bn (bn cu 2 (.box [.p (.aV (t.nodes.map aJ)),.p (.aV (t.ak.map aL))])) 5 (.row x.2.2 3 1 (x.2.1.map encI))))
  (λx=>(-1<=x.1/\x.1<t.nodes.length/\x.2.1.length+(x.1+1).toNat<=20)/\x.2.1++q9 t x.1=q9 t a) (λx=>(x.1+1).toNat) ((a:Int),[],0) ⟨⟨by omega,by omega,by simp;omega⟩,by simp⟩
  ((jl 5 5 3 1 rfl rfl (by decide)).trans bY) ?_
 rintro⟨c,i,v⟩ ⟨⟨j,k,l⟩,b⟩;simp only at j k l b;simp only[go_sem];refine aK (λe=>?_) (λe=>?_)
 ·have g:=b6 e;obtain⟨q,rfl⟩:∃q:Nat,c=q:=⟨_,(Int.toNat_of_nonneg g).symm⟩;have d:q<t.nodes.length:=by omega
  have m:=f.par q d;simp only[go_sem,getD_map aJ d,d,aJ];refine⟨by omega,?_⟩;rw[JF (f.par' d)] at b;generalize (t.nodes.getD q default).parent=par at m b ⊢;refine bO (par,i++[(q:Int)],v+1) ⟨⟨by dsimp only;omega,by dsimp only;omega,by simp only[List.length_append,List.length_cons,List.length_nil];omega⟩,?_⟩ (by dsimp only;omega) ?_
  ·rw[<-b,List.append_assoc];try rfl
  ·rw[List.map_append];exact bY
 ·have g:=dK e;rw[FK (by omega),List.append_nil] at b;subst b;simp only[go_sem];refine De (V5 (q9 t a) (by omega) v) (by simp only[go_sem]<;>rfl) (by simp only[go_sem]<;>rfl) (by simp only[go_sem]<;>rfl) (λh=>by cases h) ?_;simp only[go_sem]
theorem FN(t:Types)(e:eE t)(a:Nat)(f:a<t.nodes.length)(b:Int):aS pw 284 [aD t,.val (.int .i64 a),.val (.int .i64 b)] (λr=>r = .val (.bool (ko t a b))):=by
 have hl:∀n:Int,-1<=n->n<t.nodes.length->(q9 t n).length<=n.toNat+1:=by
  intro n c d;have:∀ (k:Nat) (n:Int),(q8 t k n).length<=k:=by
   intro k
   induction k with
   |zero=>intro n;simp[q8]
   |succ k g =>
    intro n;unfold q8;split
    ·simp
    ·simp only[List.length_cons];exact Nat.succ_le_succ (g _)
  exact this _ _
 have h:=hl a (by omega) (by omega);have i:=e.n12;refine aR [] func284 ntmps284 results284 ?_;simp only[go_sem,aD];refine aX (Wa t e a f) (by simp only[go_sem]<;>rfl) (y6) ?_;simp only[go_sem];refine aX (Vv ((q9 t a).reverse) b (by simp;omega)) (by simp only[go_sem]<;>rfl) (cc rfl) ?_;simp only[go_sem];unfold ko;rw[Bool.eq_iff_iff];simp only[List.any_eq_true,List.mem_reverse,decide_eq_true_eq];constructor
 ·rintro⟨x,c,d⟩;exact⟨x,c,d.symm⟩
 ·rintro⟨x,c,d⟩;exact⟨x,c,d.symm⟩
theorem JJ{t:Types}{a b:Int}(e:fK t)(h:qV t [a,b]=0):eE t/\(0<=a/\a<t.nodes.length)/\(0<=b/\b<t.nodes.length):=by
 unfold qV at h;split at h
 ·rename_i c;exact absurd h c
 ·rename_i c;split at h
  ·cases h
  ·rename_i d;refine⟨qU e (Decidable.of_not_not c),?_⟩;simp only[List.any_cons,List.any_nil,Bool.or_false,Bool.or_eq_true,Bool.not_eq_true',not_or,Bool.not_eq_false] at d;exact⟨xU.1 d.1,xU.1 d.2⟩
def qA(t:Types)(e a b:Int):Bool:=decide (qV t [a,b]=0)&&((decide (0<=e)&&decide (e<t.ak.length))&&(ko t a (t.ak.getD e.toNat default).src&&ko t b (t.ak.getD e.toNat default).dst))
theorem Wb(t:Types)(i:fK t)(e a b:Int):aS pw 221 [aD t,.val (.int .i64 e),.val (.int .i64 a),.val (.int .i64 b)] (λr=>r = .val (.bool (qA t e a b))):=by
 refine aR [] func221 ntmps221 results221 ?_;simp only[go_sem,aD];refine aX (FM t i [a,b] (by simp)) (by simp only[go_sem,aD]<;>rfl) (cc rfl) ?_;simp only[go_sem,aD];refine bR (λd=>?_) (λd=>?_)<;>simp only[go_sem,d,aD]
 ·have s:=b6 d;obtain⟨j,o,p⟩:=JJ i s;refine bT (λf=>?_) (λf=>?_)<;>simp only[go_sem,d,f,aD]
  ·have m:=b6 f;unfold qA;rw[gA (show ¬ 0<=e by omega)];simp
  ·have m:=dK f;refine aK (λg=>?_) (λg=>?_)<;>simp only[go_sem,d,f,g,aD]
   ·have n:=b6 g;unfold qA;rw[gA (show ¬ e<t.ak.length by omega)];simp
   ·have n:=dK g;obtain⟨k,rfl⟩:∃k:Nat,e=k:=⟨_,(Int.toNat_of_nonneg (by omega)).symm⟩;obtain⟨x,rfl⟩:∃k:Nat,a=k:=⟨_,(Int.toNat_of_nonneg o.1).symm⟩;obtain⟨y,rfl⟩:∃k:Nat,b=k:=⟨_,(Int.toNat_of_nonneg p.1).symm⟩;have c:k<t.ak.length:=by omega
    have l:qA t k x y=(ko t x (t.ak.getD k default).src&&ko t y (t.ak.getD k default).dst):=by unfold qA;rw[d,dr (show (0:Int)<=k by omega),dr (show (k:Int)<t.ak.length by omega)];simp
    rw[l];refine dB [.q,.q,.q,.q,.q,.q,.q,.q,.q,.q,.q,.q,.q,.q,.q,.q,.q,.q,.q,.q,.q] (by kernel_rfl) ?_;simp only[go_sem,aD,getD_map aL c,c,aL];refine jV (FN t j x (by omega) (t.ak.getD k default).src) (by simp only[go_sem,aD,getD_map aL c,c,aL]<;>rfl) (cc rfl) ?_;simp only[go_sem,aD,getD_map aL c,c,aL];refine oW (λh=>?_) (λh=>?_)<;>simp only[go_sem,h,aD,getD_map aL c,c,aL]
    refine jV (FN t j y (by omega) (t.ak.getD k default).dst) (by simp only[go_sem,aD,getD_map aL c,c,aL]<;>rfl) (cc rfl) ?_;simp only[go_sem,h,aD,getD_map aL c,c,aL]
 ·unfold qA;rw[d];try rfl
theorem JK(t:Types)(g:fK t)(e a b:Int):aS pw 48 [aD t,.val (.int .i64 e),.val (.int .i64 a),.val (.int .i64 b)] (λr=>r = .val (.bool (qA t e a b))):=by
 have u:=g.ak;have hw:i64.wrap ((t.ak.length:Int)-1)=(t.ak.length:Int)-1:=IntWalk.i64_in _ (by omega);refine aR [] func48 ntmps48 results48 ?_;simp only[go_sem,aD];refine aX (JI t g a b) (by simp only[go_sem,aD]<;>rfl) (cc rfl) ?_;simp only[go_sem,aD];refine bR (λd=>?_) (λd=>?_)<;>simp only[go_sem,d,aD]
 ·have p:=b6 d;obtain⟨j,n,o⟩:=JJ g p;simp only[go_sem,hw,aD];refine aX (xC e 0 ((t.ak.length:Int)-1)) (by simp only[go_sem,aD]<;>rfl) (cc rfl) ?_;simp only[go_sem,d,aD];refine aW (λf=>?_) (λf=>?_)<;>simp only[go_sem,d,f,aD]
  ·have s:0<=e/\e<=(t.ak.length:Int)-1:=by simpa only[Bool.and_eq_true,decide_eq_true_eq] using f
   obtain⟨k,rfl⟩:∃k:Nat,e=k:=⟨_,(Int.toNat_of_nonneg (by omega)).symm⟩;obtain⟨x,rfl⟩:∃k:Nat,a=k:=⟨_,(Int.toNat_of_nonneg n.1).symm⟩;obtain⟨y,rfl⟩:∃k:Nat,b=k:=⟨_,(Int.toNat_of_nonneg o.1).symm⟩;have c:k<t.ak.length:=by omega
   have m:qA t k x y=(ko t x (t.ak.getD k default).src&&ko t y (t.ak.getD k default).dst):=by unfold qA;rw[d,dr (show (0:Int)<=k by omega),dr (show (k:Int)<t.ak.length by omega)];simp
   rw[m];have h:=j.ends c;rw[xU,xU] at h;refine dB [.q,.q,.q,.q,.q,.q,.q,.q,.q,.q,.q,.q,.q,.q,.q,.q,.q,.q,.q,.q,.q] (by kernel_rfl) ?_;simp only[go_sem,aD,getD_map aL c,c,aL];refine jV (FL t (t.ak.getD k default).src h.1.1 g t.nodes.length x (by omega) (by omega) (by omega) j.par) (by simp only[go_sem,aD,getD_map aL c,c,aL]<;>rfl) (cc rfl) ?_;simp only[go_sem,aD,getD_map aL c,c,aL];refine oW (λi=>?_) (λi=>?_)<;>simp only[go_sem,i,aD,getD_map aL c,c,aL]
   refine jV (FL t (t.ak.getD k default).dst h.2.1 g t.nodes.length y (by omega) (by omega) (by omega) j.par) (by simp only[go_sem,aD,getD_map aL c,c,aL]<;>rfl) (cc rfl) ?_;simp only[go_sem,i,aD,getD_map aL c,c,aL]
  ·unfold qA;rw[d];by_cases l:0<=e
   ·have:¬ e<t.ak.length:=by rw[dr l,Bool.true_and] at f;have:=dK f;omega
    rw[gA this];simp
   ·rw[gA l];simp
 ·unfold qA;rw[d];try rfl
theorem Wc{α:Type} [Inhabited α](f:α->List PV){l:List α}{x:Nat}(h:x<l.length):(l.take x).map f++[f (l.getD x default)]=(l.take (x+1)).map f:=by rw[oG h,List.map_append];try rfl
theorem Wd(l:List Attr){x:Nat}(b:x<l.length):(l.map aU).set x [.val (.string (l.getD x default).name),.val (.int .i64 (l.getD x default).low),.val (.int .i64 (l.getD x default).high),.aV ((l.getD x default).names.map encS)]=l.map aU:=by
 have:[PV.val (.string (l.getD x default).name),.val (.int .i64 (l.getD x default).low),.val (.int .i64 (l.getD x default).high),.aV ((l.getD x default).names.map encS)]=aU (l.getD x default):=rfl;rw[this,<-List.map_set];congr 1;have a:l.getD x default=l[x]:=by simp[b]
 rw[a];simp
theorem eE.valid{t:Types}(a:eE t):(gR t).2=0:=by unfold gR;rw[if_neg (by have:=a.pos;omega),if_neg (by have:=a.n12;have:=a.m20;omega),gQ λj _ b=>a.node j b];simp only[];rw[gQ λj _ b=>a.fq j b]
theorem eE.given{t:Types}(c:eE t){l:List Int}(hl:∀a∈l,0<=a/\a<t.nodes.length):qV t l=0:=by unfold qV;rw[if_neg (by rw[c.valid];decide),if_neg];simp only[List.any_eq_true,Bool.not_eq_true',not_exists,not_and,Bool.not_eq_false];exact λa b=>xU.2 (hl a b)
theorem JL(t:Types)(c:eE t)(a:Nat)(d:a<t.nodes.length):aS pw 282 [aD t,.val (.int .i64 a)] (λr=>r = .dY [.aV ((bg t a).map aU),.val (.int .i64 0)]):=by
 have h:=nq c.vG d (c.par' d);have g:qV t [(a:Int)]=0:=c.given (by simp;omega);refine aR [] func282 ntmps282 results282 ?_;simp only[go_sem,aD];refine aX (FM t c.vG [(a:Int)] (by simp)) (by simp only[go_sem]<;>rfl) (cc rfl) ?_;simp only[go_sem,g];refine w5 18 (Jv t c.vG a d (c.par' d)) (by simp only[go_sem]<;>rfl) (xl) (by simp only[go_sem]) ?_;simp only[go_sem];refine bL (σ:=Nat) (λx=>(cK (cK (cK gv 7 (.row 18 0)) 20 (.p (.val (.int .i64 (bg t a).length)))) 21 (.p (.val (.int .i64 x)))))
  (λx=>(bn cu 18 (.row 0 138 4 ((bg t a).map aU))))
  (λx=>x<=(bg t a).length) (λx=>(bg t a).length-x) 0 (Nat.zero_le _) bY ?_
 rintro x j;simp only[go_sem];refine aK (λe=>?_) (λe=>?_)
 ·have b:x<(bg t a).length:=by simpa using e
  have f:=c.vG.Dl d (c.par' d) (iA b);have i:=f.names;simp only[go_sem,getD_map aU b,b,aU,cZ];refine aX ((V7 (((bg t a).getD x default).names) (by omega)).B2) (by simp only[go_sem,getD_map aU b,b,aU,cZ]<;>rfl) (y6) ?_;simp only[go_sem,getD_map aU b,b,aU,cZ];rw[Wd _ b];exact bO (x+1) b (by omega) (by rw[bz b (by omega)];exact bY)
 ·simp only[go_sem]
theorem JM(t:Types)(b:eE t)(a:Nat)(c:a<t.nodes.length):aS pw 47 [aD t,.val (.int .i64 a)] (λr=>r = .dY [.aV ((bg t a).map aU),.val (.int .i64 0)]):=by
 have j:=nq b.vG c (b.par' c);have h:qV t [(a:Int),(a:Int)]=0:=b.given (by simp;omega);refine aR [] func47 ntmps47 results47 ?_;simp only[go_sem,aD];refine aX (JI t b.vG (a:Int) (a:Int)) (by simp only[go_sem]<;>rfl) (cc rfl) ?_;simp only[go_sem,h];refine aX ((Jz t b.vG a c (b.par' c)).B2) (by simp only[go_sem]<;>rfl) (y6) ?_;simp only[go_sem];refine bL (σ:=Nat) (λx=>(cK (cK (cK gv 7 (.row 7 x)) 8 (.p (.aV ((bg t a).map aU)))) 9 (.p (.val (.int .i64 x)))))
  (λx=>(bn cu 7 (.row x 138 4 (((bg t a).take x).map aU))))
  (λx=>x<=(bg t a).length) (λx=>(bg t a).length-x) 0 (Nat.zero_le _) ((jl 7 7 138 4 rfl rfl (by decide)).trans bY) ?_
 rintro x l;simp only[go_sem];refine aK (λf=>?_) (λf=>?_)
 ·have d:x<(bg t a).length:=by simpa using f
  have g:=b.vG.Dl c (b.par' c) (iA d);have k:=g.names;simp only[go_sem,getD_map aU d,d,aU,cZ];have e:=Wc aU d;simp only[aU,cZ] at e;rw[e];refine⟨⟨by omega,JD _⟩,by simp;omega,?_⟩;exact bO (x+1) d (by omega) (by rw[bz d (by omega)];exact bY)
 ·have i:(bg t a).length<=x:=by simpa using f
  simp only[go_sem];rw[List.take_of_length_le i]
structure B7(g:eU):Prop where
 nodes:g.nodes.length<=45
 ak:g.ak.length<=90
structure AS(g:eU):Prop where
 nodes:g.nodes.length<=1000
 ak:g.ak.length<=1000
theorem B7.yJ{g:eU}(h:B7 g):AS g:=⟨by have:=h.nodes;omega,by have:=h.ak;omega⟩
def rY(n:Int):Bool:=decide (0<=n)&&decide (n<=99)
def tZ(n:Nat)(e:Edge):Bool:=(rY e.type&&(decide (0<=e.src)&&decide (e.src<=(n:Int)-1)))&&(decide (0<=e.dst)&&decide (e.dst<=(n:Int)-1))
def pP(g:eU):Int:=if 40<g.nodes.length\/80<g.ak.length then 3 else if g.nodes.any (λn=>!rY n)=true then 6 else if g.ak.any (λe=>!tZ g.nodes.length e)=true then 6 else 0
structure B8(g:eU):Prop where
 nodes:g.nodes.length<=40
 ak:g.ak.length<=80
 kind:∀i,i<g.nodes.length->0<=g.nodes.getD i default/\g.nodes.getD i default<=99
 fq:∀i,i<g.ak.length->(0<=(g.ak.getD i default).type/\(g.ak.getD i default).type<=99)/\(0<=(g.ak.getD i default).src/\(g.ak.getD i default).src<g.nodes.length)/\(0<=(g.ak.getD i default).dst/\(g.ak.getD i default).dst<g.nodes.length)
theorem FO{g:eU}(h:pP g=0):B8 g:=by
 unfold pP at h;split at h
 ·cases h
 ·split at h
  ·cases h
  ·split at h
   ·cases h
   ·rename_i d b c;simp only[List.any_eq_true,not_exists,not_and,Bool.not_eq_true',Bool.not_eq_false] at b c;refine⟨by omega,by omega,λi a=>?_,λi a=>?_⟩
    ·have:=b _ (iA a);simpa only[rY,Bool.and_eq_true,decide_eq_true_eq] using this
    ·have:=c _ (iA a);simp only[tZ,rY,Bool.and_eq_true,decide_eq_true_eq] at this;omega
theorem We(e:Edge)(n:Nat)(f:n<=1000):aS pw 281 [.agg (aY e),.val (.int .i64 n)] (λr=>r = .val (.bool (tZ n e))):=by
 have hw:i64.wrap ((n:Int)-1)=(n:Int)-1:=IntWalk.i64_in _ (by omega);unfold tZ;refine aR [] func281 ntmps281 results281 ?_;simp only[go_sem,aY,hw];refine aX (Dh e.type 99) (by simp only[go_sem,aY,hw]<;>rfl) (cc rfl) ?_;simp only[go_sem,aY,hw];have c:(decide (0<=e.type)&&decide (e.type<=99))=rY e.type:=rfl;rw[c];refine bR (λa=>?_) (λa=>?_)<;>simp only[go_sem,a,aY,hw]
 refine aX (Dh e.src ((n:Int)-1)) (by simp only[go_sem,aY,hw]<;>rfl) (cc rfl) ?_;simp only[go_sem,aY,hw];generalize (decide (0<=e.src)&&decide (e.src<=(n:Int)-1))=d;refine bR (λb=>?_) (λb=>?_)<;>simp only[go_sem,b,aY,hw]
 refine aX (Dh e.dst ((n:Int)-1)) (by simp only[go_sem,aY,hw]<;>rfl) (cc rfl) ?_;simp only[go_sem,aY,hw]
theorem Wf(n:Int):aS pw 277 [.val (.int .i64 n)] (λr=>r = .val (.bool (!rY n))):=by unfold rY;refine aR [] func277 ntmps277 results277 ?_;simp only[go_sem];refine aX (Dh n 99) (by simp only[go_sem]<;>rfl) (cc rfl) ?_;simp only[go_sem]
theorem Wg(g:eU)(a:AS g)(e:Edge):aS pw 280 [.agg (aY e),.eF [br g.nodes,.aV (g.ak.map aY)] 0] (λr=>r = .val (.bool (!tZ g.nodes.length e))):=by refine aR [] func280 ntmps280 results280 ?_;simp only[go_sem,aY,br];refine aX (We e g.nodes.length a.nodes) (by simp only[go_sem]<;>rfl) (cc rfl) ?_;simp only[go_sem]
theorem Wh(g:eU)(f:AS g):aS pw 219 [fA g] (λr=>r = .val (.int .i64 (pP g))):=by
 have j:=f.nodes;have k:=f.ak;unfold pP;refine aR [] func219 ntmps219 results219 ?_;simp only[go_sem,fA,br];refine bT (λa=>?_) (λa=>?_)<;>simp only[go_sem,a,fA,br]
 ·have h:=b6 a;rw[if_pos (by omega)]
 ·have h:=dK a;refine aK (λb=>?_) (λb=>?_)<;>simp only[go_sem,fA,br]
  ·have i:=b6 b;rw[if_pos (by omega)]
  ·have i:=dK b;rw[if_neg (by omega)];refine aX (Jp (λn=>!rY n) g.nodes (by omega) _ [] [] (λy _=>Wf y)) (by simp only[go_sem,fA,br]<;>rfl) (cc rfl) ?_;simp only[go_sem,fA,br];refine aK (λc=>?_) (λc=>?_)<;>simp only[go_sem,fA,br]
   ·rw[if_pos c]
   ·rw[if_neg (by rw[c];decide)];refine aX (Vr (λe=>!tZ g.nodes.length e) g.ak (by omega) _ [] [.eF [br g.nodes,.aV (g.ak.map aY)] 0] (λy _=>Wg g f y)) (by simp only[go_sem,fA,br]<;>rfl) (cc rfl) ?_;simp only[go_sem,fA,br];refine aK (λd=>?_) (λd=>?_)<;>simp only[go_sem,fA,br]
    ·rw[if_pos d]
    ·rw[if_neg (by rw[d];decide)]
theorem JN(n:Int):aS pw 134 [.val (.int .i64 n)] (λr=>r = .val (.bool (rY n))):=by
 unfold rY;refine aR [] func134 ntmps134 results134 ?_;simp only[go_sem]
 repeat' first|done|(refine bT (λh=>?_) (λh=>?_)<;>try simp only[go_sem,h])|(refine bR (λh=>?_) (λh=>?_)<;>try simp only[go_sem,h])|(refine aW (λh=>?_) (λh=>?_)<;>try simp only[go_sem,h])|(refine aK (λh=>?_) (λh=>?_)<;>try simp only[go_sem,h])
theorem Wi(e:Edge)(n:Nat):aS pw 135 [.agg (aY e),.val (.int .i64 n)] (λr=>r = .val (.bool (tZ n e))):=by
 refine aR [] func135 ntmps135 results135 ?_;simp only[go_sem,aY];refine aX (JN e.type) (by simp only[go_sem,aY]<;>rfl) (cc rfl) ?_;simp only[go_sem,aY];refine bR (λa=>?_) (λa=>?_)<;>simp only[go_sem,a,aY]
 ·have b:tZ n e=((decide (0<=e.src)&&decide (e.src<=(n:Int)-1))&&(decide (0<=e.dst)&&decide (e.dst<=(n:Int)-1))):=by unfold tZ;rw[a,Bool.true_and]
  rw[b]
  repeat' first|done|(refine bT (λh=>?_) (λh=>?_)<;>try simp only[go_sem,h,a,aY])|(refine bR (λh=>?_) (λh=>?_)<;>try simp only[go_sem,h,a,aY])|(refine aW (λh=>?_) (λh=>?_)<;>try simp only[go_sem,h,a,aY])|(refine aK (λh=>?_) (λh=>?_)<;>try simp only[go_sem,h,a,aY])
  all_goals(simp only[decide_eq_true_eq,decide_eq_false_iff_not,Bool.not_eq_true',Bool.not_eq_false'] at *;rw[Bool.eq_iff_iff];simp only[Bool.not_eq_true',Bool.not_eq_false',Bool.and_eq_true,Bool.or_eq_true,Bool.and_eq_false_iff,Bool.or_eq_false_iff,decide_eq_true_eq,decide_eq_false_iff_not,Bool.false_eq_true,true_iff,iff_true,false_iff,iff_false];omega)
 ·unfold tZ;rw[a];try rfl
theorem any_true{α:Type} [Inhabited α]{p:α->Bool}{l:List α}{j:Nat}(a:j<l.length)(h:p (l.getD j default)=true):l.any p=true:=List.any_eq_true.2 ⟨_,iA a,h⟩
theorem any_false{α:Type} [Inhabited α]{p:α->Bool}{l:List α}(h:∀j,j<l.length->p (l.getD j default)=false):l.any p=false:=by rw[<-List.take_length (l:=l)];exact oH (Nat.le_refl _) h
theorem Wj(g:eU)(k:AS g):aS pw 67 [fA g] (λr=>r = .val (.int .i64 (pP g))):=by
 have u:=k.nodes;have v:=k.ak;unfold pP;refine aR [] func67 ntmps67 results67 ?_;simp only[go_sem,fA,br];refine bT (λd=>?_) (λd=>?_)<;>simp only[go_sem,d,fA,br]
 ·have o:=b6 d;rw[if_pos (by omega)]
 ·have o:=dK d;refine aK (λf=>?_) (λf=>?_)<;>simp only[go_sem,fA,br]
  ·have s:=b6 f;rw[if_pos (by omega)]
  ·have s:=dK f;rw[if_neg (by omega)];refine bL (σ:=Nat) (λx=>(cK (cK gv 1 (.ptr 1 0)) 3 (.p (.val (.int .i64 x)))))
    (λx=>(bn cu 1 (.box [.p (.aV (g.nodes.map encI)),.p (.aV (g.ak.map aY))])))
    (λx=>x<=g.nodes.length/\∀j,j<x->(!rY (g.nodes.getD j default))=false) (λx=>g.nodes.length-x) 0 ⟨Nat.zero_le _,λj b=>absurd b (Nat.not_lt_zero j)⟩ bY ?_
   rintro x ⟨z,l⟩;simp only[go_sem,fA,br];refine aK (λh=>?_) (λh=>?_)
   ·have a:x<g.nodes.length:=by simpa using h
    simp only[go_sem,fA,br,getD_map encI a,a,encI];refine aX (JN (g.nodes.getD x default)) (by simp only[go_sem,fA,br,getD_map encI a,a,encI]<;>rfl) (cc rfl) ?_;simp only[go_sem,fA,br,getD_map encI a,a,encI];refine aW (λc=>?_) (λc=>?_)<;>simp only[go_sem,fA,br,getD_map encI a,a,encI]
    ·exact bO (x+1) ⟨a,uL (p:=λj=>!rY (g.nodes.getD j default)) (λj b=>by have:=l j b;simpa using this) (by rw[c];rfl)⟩ (by omega) (by rw[bz a (by omega)];exact bY)
    ·rw[if_pos (any_true (p:=λn=>!rY n) a (by rw[c];rfl))]
   ·have w:g.nodes.length<=x:=by simpa using h
    rw[if_neg (by rw[any_false (p:=λn=>!rY n) λj b=>l j (by omega)];decide)];simp only[go_sem,fA,br];refine bL (σ:=Nat) (λx=>(cK (cK gv 1 (.ptr 1 0)) 4 (.p (.val (.int .i64 x)))))
     (λx=>(bn cu 1 (.box [.p (.aV (g.nodes.map encI)),.p (.aV (g.ak.map aY))])))
     (λx=>x<=g.ak.length/\∀j,j<x->(!tZ g.nodes.length (g.ak.getD j default))=false) (λx=>g.ak.length-x) 0 ⟨Nat.zero_le _,λj b=>absurd b (Nat.not_lt_zero j)⟩ bY ?_
    rintro y ⟨A,m⟩;simp only[go_sem,fA,br];refine aK (λi=>?_) (λi=>?_)
    ·have a:y<g.ak.length:=by simpa using i
     simp only[go_sem,fA,br,getD_map aY a,a,aY];refine dB [.q,.q,.q,.q,.q,.q,.q,.q,.q,.q] (by kernel_rfl) ?_;simp only[go_sem,fA,br,getD_map aY a,a,aY];refine jV (Wi (g.ak.getD y default) g.nodes.length) (by simp only[go_sem,fA,br,getD_map aY a,a,aY]<;>rfl) (cc rfl) ?_;simp only[go_sem,fA,br,getD_map aY a,a,aY];refine aW (λc=>?_) (λc=>?_)<;>simp only[go_sem,fA,br,getD_map aY a,a,aY]
     ·exact bO (y+1) ⟨a,uL (p:=λj=>!tZ g.nodes.length (g.ak.getD j default)) (λj b=>by have:=m j b;simpa using this) (by rw[c];rfl)⟩ (by omega) (by rw[bz a (by omega)];exact bY)
     ·rw[if_pos (any_true (p:=λe=>!tZ g.nodes.length e) a (by rw[c];rfl))]
    ·have t:g.ak.length<=y:=by simpa using i
     rw[if_neg (by rw[any_false (p:=λe=>!tZ g.nodes.length e) λj b=>m j (by omega)];decide)];simp only[go_sem,fA,br]
structure FP(h:Host):Prop where
 graph:B7 h.graph
 values:h.values.length<=45
 row:∀l∈h.values,l.length<=12
structure qW(h:Host):Prop where
 graph:AS h.graph
 values:h.values.length<=1000
 row:∀l∈h.values,l.length<=1000
theorem FP.yJ{h:Host}(a:FP h):qW h:=⟨a.graph.yJ,by have:=a.values;omega,λl hl=>by have:=a.row l hl;omega⟩
def mK(t:Types)(a:Nat)(b:List Int)(k:Nat):Int:=if b.getD k default<((bg t a).getD k default).low\/((bg t a).getD k default).high<b.getD k default then 6 else 0
def lJ(t:Types)(a:Int)(b:List Int):Int :=
 if (t.nodes.length:Int)<=a then 6
 else if (t.nodes.getD a.toNat default).abs=true then 13
 else if b.length≠(bg t a.toNat).length then 20
 else nJ (mK t a.toNat b) 0 b.length
def rZ(t:Types)(h:Host)(i:Nat):Int :=
 if (t.ak.length:Int)<=(h.graph.ak.getD i default).type then 6
 else if qA t (h.graph.ak.getD i default).type (h.graph.nodes.getD (h.graph.ak.getD i default).src.toNat default) (h.graph.nodes.getD (h.graph.ak.getD i default).dst.toNat default)=true then 0 else 13
def kC(t:Types)(h:Host):Int×Int :=
 if (gR t).2≠0 then (-1,(gR t).2)
 else if pP h.graph≠0 then (-1,pP h.graph)
 else if h.values.length≠h.graph.nodes.length then (-1,20)
 else match kH (λi=>lJ t (h.graph.nodes.getD i default) (h.values.getD i default)) 0 h.graph.nodes.length with
  |some k=>((k:Int),lJ t (h.graph.nodes.getD k default) (h.values.getD k default))
  |none=>match kH (rZ t h) 0 h.graph.ak.length with
   |some k=>((k:Int),rZ t h k)
   |none=>(-1,0)
theorem Wk(t:Types)(s:eE t)(h:Int)(A:0<=h)(b:List Int)(E:b.length<=1000):aS pw 220 [aD t,.val (.int .i64 h),.aV (b.map encI)] (λr=>r = .val (.int .i64 (lJ t h b))):=by
 obtain⟨k,rfl⟩:∃k:Nat,h=k:=⟨_,(Int.toNat_of_nonneg A).symm⟩;refine aR [] func220 ntmps220 results220 ?_;simp only[go_sem,aD];refine aK (λi=>?_) (λi=>?_)<;>simp only[go_sem,aD]
 ·have B:=b6 i;unfold lJ;rw[if_pos (by omega)]
 ·have B:=dK i;have a:k<t.nodes.length:=by omega
  have D:=nq s.vG a (s.par' a);have u:lJ t k b=if (t.nodes.getD k default).abs=true then 13 else if b.length≠(bg t k).length then 20 else nJ (mK t k b) 0 b.length:=by unfold lJ;rw[if_neg (by omega),Int.toNat_natCast]
  rw[u];clear u;simp only[go_sem,aD,getD_map aJ a,a,aJ];refine aK (λl=>?_) (λl=>?_)<;>simp only[go_sem,aD,getD_map aJ a,a,aJ]
  ·rw[if_pos l]
  ·rw[if_neg (by rw[l];decide)];refine aX (JL t s k a) (by simp only[go_sem,aD,getD_map aJ a,a,aJ]<;>rfl) (y6) ?_;simp only[go_sem,aD,getD_map aJ a,a,aJ];refine aW (λm=>?_) (λm=>?_)<;>simp only[go_sem,aD,getD_map aJ a,a,aJ]
   ·have z:=b6 m;have F:b.length=(bg t k).length:=by omega
    rw[if_neg (by omega)];refine bL (σ:=Nat) (λx=>(cK (cK (cK (cK gv 2 (.p (.aV (b.map encI)))) 33 (.p (.aV ((bg t k).map aU)))) 34 (.p (.val (.int .i64 (bg t k).length)))) 35 (.p (.val (.int .i64 x))))) (λx=>cu)
     (λx=>x<=b.length/\∀j,j<x->mK t k b j=0) (λx=>b.length-x) 0 ⟨Nat.zero_le _,λj y=>absurd y (Nat.not_lt_zero j)⟩ bY ?_
    rintro x ⟨G,o⟩;simp only[go_sem,aD,getD_map aJ a,a,aJ];refine aK (λn=>?_) (λn=>?_)
    ·have d:x<(bg t k).length:=by simpa using n
     have c:x<b.length:=by omega
     simp only[go_sem,aD,getD_map aJ a,a,aJ,getD_map aU d,d,aU,cZ,getD_map encI c,c,encI];refine dB [.q,.q,.q,.q,.q,.q,.q,.q,.q,.q,.q,.q,.q,.q,.q,.q] (by kernel_rfl) ?_;simp only[go_sem,aD,getD_map aJ a,a,aJ,getD_map aU d,d,aU,cZ,getD_map encI c,c,encI];have bad:∀p:Prop,mK t k b x=6->p=p->(6:Int)=nJ (mK t k b) 0 b.length:=λp e _=>by rw[sD c o (by rw[e];decide),e]
     refine pY (λf=>?_) (λf=>?_)<;>simp only[go_sem,f,aD,getD_map aJ a,a,aJ,getD_map aU d,d,aU,cZ,getD_map encI c,c,encI]
     ·have v:=b6 f;exact bad True (by unfold mK;rw[if_pos (.inl v)]) rfl
     ·have v:=dK f;refine aK (λg=>?_) (λg=>?_)<;>simp only[go_sem,g,aD,getD_map aJ a,a,aJ,getD_map aU d,d,aU,cZ,getD_map encI c,c,encI]
      ·have w:=b6 g;exact bad True (by unfold mK;rw[if_pos (.inr w)]) rfl
      ·have w:=dK g;have e:mK t k b x=0:=by unfold mK;rw[if_neg (by omega)]
       exact bO (x+1) ⟨c,all_succ o e⟩ (by omega) (by rw[bz c (by omega)];exact bY)
    ·have C:(bg t k).length<=x:=by simpa using n
     simp only[go_sem,aD,getD_map aJ a,a,aJ];rw[uv λj y=>o j (by omega)]
   ·have z:=dK m;rw[if_pos (by omega)]
theorem Wl(t:Types)(s:eE t)(h:Int)(A:0<=h)(b:List Int)(E:b.length<=1000):aS pw 68 [aD t,.val (.int .i64 h),.aV (b.map encI)] (λr=>r = .val (.int .i64 (lJ t h b))):=by
 obtain⟨k,rfl⟩:∃k:Nat,h=k:=⟨_,(Int.toNat_of_nonneg A).symm⟩;refine aR [] func68 ntmps68 results68 ?_;simp only[go_sem,aD];refine aK (λi=>?_) (λi=>?_)<;>simp only[go_sem,aD]
 ·have B:=b6 i;unfold lJ;rw[if_pos (by omega)]
 ·have B:=dK i;have a:k<t.nodes.length:=by omega
  have D:=nq s.vG a (s.par' a);have u:lJ t k b=if (t.nodes.getD k default).abs=true then 13 else if b.length≠(bg t k).length then 20 else nJ (mK t k b) 0 b.length:=by unfold lJ;rw[if_neg (by omega),Int.toNat_natCast]
  rw[u];clear u;simp only[go_sem,aD,getD_map aJ a,a,aJ];refine aK (λl=>?_) (λl=>?_)<;>simp only[go_sem,aD,getD_map aJ a,a,aJ]
  ·rw[if_pos l]
  ·rw[if_neg (by rw[l];decide)];refine aX (JM t s k a) (by simp only[go_sem,aD,getD_map aJ a,a,aJ]<;>rfl) (y6) ?_;simp only[go_sem,aD,getD_map aJ a,a,aJ];refine aW (λm=>?_) (λm=>?_)<;>simp only[go_sem,aD,getD_map aJ a,a,aJ]
   ·have z:=b6 m;have F:b.length=(bg t k).length:=by omega
    rw[if_neg (by omega)];refine bL (σ:=Nat) (λx=>(cK (cK (cK gv 2 (.p (.aV (b.map encI)))) 7 (.p (.aV ((bg t k).map aU)))) 9 (.p (.val (.int .i64 x))))) (λx=>cu)
     (λx=>x<=b.length/\∀j,j<x->mK t k b j=0) (λx=>b.length-x) 0 ⟨Nat.zero_le _,λj y=>absurd y (Nat.not_lt_zero j)⟩ bY ?_
    rintro x ⟨G,o⟩;simp only[go_sem,aD,getD_map aJ a,a,aJ];refine aK (λn=>?_) (λn=>?_)
    ·have d:x<(bg t k).length:=by simpa using n
     have c:x<b.length:=by omega
     simp only[go_sem,aD,getD_map aJ a,a,aJ,getD_map aU d,d,aU,cZ,getD_map encI c,c,encI];refine dB [.q,.q,.q,.q,.q,.q,.q,.q,.q,.q,.q,.q,.q,.q,.q,.q,.q,.q,.q,.q,.q,.q] (by kernel_rfl) ?_;simp only[go_sem,aD,getD_map aJ a,a,aJ,getD_map aU d,d,aU,cZ,getD_map encI c,c,encI];have bad:∀p:Prop,mK t k b x=6->p=p->(6:Int)=nJ (mK t k b) 0 b.length:=λp e _=>by rw[sD c o (by rw[e];decide),e]
     refine pY (λf=>?_) (λf=>?_)<;>simp only[go_sem,f,aD,getD_map aJ a,a,aJ,getD_map aU d,d,aU,cZ,getD_map encI c,c,encI]
     ·have v:=b6 f;exact bad True (by unfold mK;rw[if_pos (.inl v)]) rfl
     ·have v:=dK f;refine aK (λg=>?_) (λg=>?_)<;>simp only[go_sem,g,aD,getD_map aJ a,a,aJ,getD_map aU d,d,aU,cZ,getD_map encI c,c,encI]
      ·have w:=b6 g;exact bad True (by unfold mK;rw[if_pos (.inr w)]) rfl
      ·have w:=dK g;have e:mK t k b x=0:=by unfold mK;rw[if_neg (by omega)]
       exact bO (x+1) ⟨c,all_succ o e⟩ (by omega) (by rw[bz c (by omega)];exact bY)
    ·have C:(bg t k).length<=x:=by simpa using n
     simp only[go_sem,aD,getD_map aJ a,a,aJ];rw[uv λj y=>o j (by omega)]
   ·have z:=dK m;rw[if_pos (by omega)]
end Go.Proofs.YtnnpmiiegnedeaaGreat
