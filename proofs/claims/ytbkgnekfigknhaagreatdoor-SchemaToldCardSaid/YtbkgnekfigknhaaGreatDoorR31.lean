/- Merged texts: PRead Zn0 Zn3 Zn4. No statement of the program is proved here. -/
import Derived.Test.YtbkgnekfigknhaaGreatDoorR30
set_option linter.unusedSimpArgs false
set_option linter.unusedVariables false
set_option maxRecDepth 100000
set_option maxHeartbeats 8000000
section
namespace Go.Mor
open Go Go.RowKit
abbrev Rd(α:Type):Type:=zB→Int→Option (α×Int)
def Rd.bind{α β:Type}(r:Rd α)(f:α→Rd β):Rd β:=fun s a=>match r s a with|none=>none|some (v,b)=>f v s b
def Rd.ret{α:Type}(v:α):Rd α:=fun _ a=>some (v,a)
def Rd.fail{α:Type}:Rd α:=fun _ _=>none
def Enc{α:Type}(r:Rd α)(e:zB)(v:α):Prop:=∀pre post:zB,r (pre++e++post) pre.length=some (v,((pre.length+e.length:Nat):Int))
def Cuts{α:Type}(r:Rd α):Prop:=∀(s:zB) (a:Int) (v:α) (b:Int) (k:Nat),r s a=some (v,b)→a≤k→a≤b∧(b≤k→r (s.take k) a=some (v,b))∧(k<b→r (s.take k) a=none)
theorem Enc.bind{α β:Type}{r:Rd α}{f:α→Rd β}{e1 e2:zB}{v1:α}{v2:β}(h1:Enc r e1 v1)(h2:Enc (f v1) e2 v2):Enc (r.bind f) (e1++e2) v2:=by
 intro pre post;have a:=h1 pre (e2++post);have b:=h2 (pre++e1) post
 grind [Rd.bind]
theorem Enc.ret{α:Type}(v:α):Enc (Rd.ret v) [] v:=fun pre post=>by simp[Rd.ret]
theorem Cuts.bind{α β:Type}{r:Rd α}{f:α→Rd β}(h1:Cuts r)(h2:∀v,Cuts (f v)):Cuts (r.bind f):=by
 intro s a v b k h hk;unfold Rd.bind at h ⊢;cases hr:r s a with
 |none=>grind
 |some p=>
  obtain⟨v1,b1⟩:=p;rw[hr]at h;obtain⟨g1,g2,g3⟩:=h1 s a v1 b1 k hr hk;by_cases hb:b1≤k
  ·obtain⟨j1,j2,j3⟩:=h2 v1 s b1 v b k h hb
   grind
  ·obtain⟨j1,_,_⟩:=h2 v1 s b1 v b b1.toNat h (by omega)
   grind
theorem Cuts.ret{α:Type}(v:α):Cuts (Rd.ret v):=by
 intro s a v' b k h hk;simp only[Rd.ret,Option.some.injEq,Prod.mk.injEq]at h ⊢
 grind
theorem Cuts.fail{α:Type}:Cuts (Rd.fail (α:=α)):=fun s a v b k h=>by cases h
end Go.Mor
end

section
namespace Go.Proofs.YtbkgnekfigknhaaGreatDoor
open Go Go.RowKit Go.Mor Go.Sh
theorem zoN(n:Nat)(a b c d:Int):zr Tryz.prog (Op.equalIn (n+1+1) 49 (.agg #[.int .i64 a,.int .i64 b]) (.agg #[.int .i64 c,.int .i64 d]))=some (z0i ⟨a,b⟩ ⟨c,d⟩):=by
 rw[z2n _ _ _ _ (by kernel_rfl) (by kernel_rfl)];obtain⟨f,g,hl,nf,ng,pf,pg,ef,eg⟩:=zb7;rw[hl];simp only[Op.eqFields,nf,ng,ne_eq,not_false_eq_true,if_true,z01,pf,pg,ef,eg,Option.bind_some];unfold z0i;cases h:(a==c)
 ·simp[h,z25]
 ·cases h2:(b==d)<;>simp[h,h2,z25,z01,pg,eg,ng]
structure PartOk(f:Field)(x y:Array Value)(a b:Value)(e:Bool):Prop where
 nm:f.name≠ "_"
 px:zr Tryz.prog (part f.type x f.offset)=some a
 py:zr Tryz.prog (part f.type y f.offset)=some b
 eq:∀n,zr Tryz.prog (Op.equalIn (n+1+1) f.type a b)=some e
theorem z1G{f:Field}{l:List Field}{x y:Array Value}{a b:Value}{e r:Bool}{n:Nat}(h:PartOk f x y a b e)(hl:zr Tryz.prog (Op.eqFields (n+1+1) x y l)=some r):zr Tryz.prog (Op.eqFields (n+1+1) x y (f::l))=some (e&&r):=by
 obtain⟨h1,h2,h3,h4⟩:=h;simp only[Op.eqFields,h1,ne_eq,not_false_eq_true,if_true,z01,h2,h3,h4,Option.bind_some];cases e
 ·simp[z25]
 ·simpa using hl
theorem zdC{x y:Array Value}{n:Nat}:zr Tryz.prog (Op.eqFields n x y [])=some true:=rfl
theorem prS(n:Nat)(a b:ByteArray):zr Tryz.prog (Op.equalIn (n+1) 9 (.string a) (.string b))=some (a==b):=by kernel_rfl
theorem prI(n:Nat)(a b:Int):zr Tryz.prog (Op.equalIn (n+1) 3 (.int .i64 a) (.int .i64 b))=some (a==b):=by kernel_rfl
theorem prB(n:Nat)(a b:Bool):zr Tryz.prog (Op.equalIn (n+1) 4 (.bool a) (.bool b))=some (a==b):=by kernel_rfl
def fldA(s:ByteArray)(k o:Int)(b:Bool):Array Value:= #[.string s,.int .i64 k,.int .i64 o,.bool b]
theorem zr0(s s':ByteArray)(k k' o o':Int)(b b':Bool):zr Tryz.prog (Op.equal 57 (.agg (fldA s k o b)) (.agg (fldA s' k' o' b')))=some ((s==s')&&(z0i ⟨k,o⟩ ⟨k',o'⟩&&((b==b')&&true))):=by
 unfold Op.equal;obtain⟨n,hn⟩:∃n,Op.maxDepth=n+1+1+1:=⟨_,rfl⟩
 rw[hn,z2n _ _ _ _ (by kernel_rfl) (by kernel_rfl)];obtain⟨f,g,h,hl⟩:∃f g h,(Tryz.prog.fieldsOf 57).toList=[f,g,h]∧PartOk f (fldA s k o b) (fldA s' k' o' b') (.string s) (.string s') (s==s')∧PartOk g (fldA s k o b) (fldA s' k' o' b') (.agg #[.int .i64 k,.int .i64 o]) (.agg #[.int .i64 k',.int .i64 o']) (z0i ⟨k,o⟩ ⟨k',o'⟩)∧PartOk h (fldA s k o b) (fldA s' k' o' b') (.bool b) (.bool b') (b==b'):=
  ⟨(Tryz.prog.fieldsOf 57).toList.getD 0 default,(Tryz.prog.fieldsOf 57).toList.getD 1 default,(Tryz.prog.fieldsOf 57).toList.getD 2 default,by kernel_rfl,
   ⟨of_decide_eq_true (by kernel_rfl),by kernel_rfl,by kernel_rfl,fun n=>prS (n+1) _ _⟩,⟨of_decide_eq_true (by kernel_rfl),by kernel_rfl,by kernel_rfl,fun n=>zoN n _ _ _ _⟩,⟨of_decide_eq_true (by kernel_rfl),by kernel_rfl,by kernel_rfl,fun n=>prB (n+1) _ _⟩⟩
 rw[hl.1];exact z1G hl.2.1 (z1G hl.2.2.1 (z1G hl.2.2.2 zdC))
theorem zrx(s s':ByteArray)(k k' o o':Int)(b b':Bool):z04 Tryz.prog (do eqGuard .neq 57 (.const (.agg #[.string s,.int .i64 k,.int .i64 o,.bool b])) (.const (.agg #[.string s',.int .i64 k',.int .i64 o',.bool b'])) (.agg #[.string s,.int .i64 k,.int .i64 o,.bool b]) (.agg #[.string s',.int .i64 k',.int .i64 o',.bool b']);binOp .neq 57 (.agg #[.string s,.int .i64 k,.int .i64 o,.bool b]) (.agg #[.string s',.int .i64 k',.int .i64 o',.bool b']))=
  some (.pv (.v (.bool (!((s==s')&&(z0i ⟨k,o⟩ ⟨k',o'⟩&&((b==b')&&true)))))),.no):=by
 unfold z04;rw[z01];have hg:zr Tryz.prog (eqGuard .neq 57 (.const (.agg #[.string s,.int .i64 k,.int .i64 o,.bool b])) (.const (.agg #[.string s',.int .i64 k',.int .i64 o',.bool b'])) (.agg #[.string s,.int .i64 k,.int .i64 o,.bool b]) (.agg #[.string s',.int .i64 k',.int .i64 o',.bool b']))=some ():=by kernel_rfl
 rw[hg,Option.bind_some];have hb:binOp .neq 57 (.agg #[.string s,.int .i64 k,.int .i64 o,.bool b]) (.agg #[.string s',.int .i64 k',.int .i64 o',.bool b'])=(Op.equal 57 (.agg (fldA s k o b)) (.agg (fldA s' k' o' b'))>>=fun r=>pure (.bool (!r))):=rfl;rw[hb,z01,zr0];rfl
section
open Go.Sh.Cd1 Go.Sh.Cd7
def z0m(a b:Chg):Bool:=(a.k==b.k)&&((a.f==b.f)&&((a.n==b.n)&&((a.m==b.m)&&(z0i a.t b.t&&((a.x==b.x)&&((a.o==b.o)&&true))))))
def chA(k:Int)(f n m:ByteArray)(t o:Int)(x y:ByteArray):Array Value:= #[.int .i64 k,.string f,.string n,.string m,.int .i64 t,.int .i64 o,.string x,.string y]
theorem zkz(k k':Int)(f n m f' n' m':ByteArray)(t o t' o':Int)(x y x' y':ByteArray):zr Tryz.prog (Op.equal 51 (.agg (chA k f n m t o x y)) (.agg (chA k' f' n' m' t' o' x' y')))=
  some ((k==k')&&((f==f')&&((n==n')&&((m==m')&&(z0i ⟨t,o⟩ ⟨t',o'⟩&&((x==x')&&((y==y')&&true))))))):=by
 unfold Op.equal;obtain⟨d,hn⟩:∃d,Op.maxDepth=d+1+1+1:=⟨_,rfl⟩
 rw[hn,z2n _ _ _ _ (by kernel_rfl) (by kernel_rfl)];obtain⟨f1,f2,f3,f4,f5,f6,f7,hl,P1,P2,P3,P4,P5,P6,P7⟩:∃f1 f2 f3 f4 f5 f6 f7,(Tryz.prog.fieldsOf 51).toList=[f1,f2,f3,f4,f5,f6,f7]∧
   PartOk f1 (chA k f n m t o x y) (chA k' f' n' m' t' o' x' y') (.int .i64 k) (.int .i64 k') (k==k')∧
   PartOk f2 (chA k f n m t o x y) (chA k' f' n' m' t' o' x' y') (.string f) (.string f') (f==f')∧
   PartOk f3 (chA k f n m t o x y) (chA k' f' n' m' t' o' x' y') (.string n) (.string n') (n==n')∧
   PartOk f4 (chA k f n m t o x y) (chA k' f' n' m' t' o' x' y') (.string m) (.string m') (m==m')∧
   PartOk f5 (chA k f n m t o x y) (chA k' f' n' m' t' o' x' y') (.agg #[.int .i64 t,.int .i64 o]) (.agg #[.int .i64 t',.int .i64 o']) (z0i ⟨t,o⟩ ⟨t',o'⟩)∧
   PartOk f6 (chA k f n m t o x y) (chA k' f' n' m' t' o' x' y') (.string x) (.string x') (x==x')∧
   PartOk f7 (chA k f n m t o x y) (chA k' f' n' m' t' o' x' y') (.string y) (.string y') (y==y'):=
  ⟨(Tryz.prog.fieldsOf 51).toList.getD 0 default,(Tryz.prog.fieldsOf 51).toList.getD 1 default,(Tryz.prog.fieldsOf 51).toList.getD 2 default,(Tryz.prog.fieldsOf 51).toList.getD 3 default,
   (Tryz.prog.fieldsOf 51).toList.getD 4 default,(Tryz.prog.fieldsOf 51).toList.getD 5 default,(Tryz.prog.fieldsOf 51).toList.getD 6 default,by kernel_rfl,
   ⟨of_decide_eq_true (by kernel_rfl),by kernel_rfl,by kernel_rfl,fun n=>prI (n+1) _ _⟩,
   ⟨of_decide_eq_true (by kernel_rfl),by kernel_rfl,by kernel_rfl,fun n=>prS (n+1) _ _⟩,
   ⟨of_decide_eq_true (by kernel_rfl),by kernel_rfl,by kernel_rfl,fun n=>prS (n+1) _ _⟩,
   ⟨of_decide_eq_true (by kernel_rfl),by kernel_rfl,by kernel_rfl,fun n=>prS (n+1) _ _⟩,
   ⟨of_decide_eq_true (by kernel_rfl),by kernel_rfl,by kernel_rfl,fun n=>zoN n _ _ _ _⟩,
   ⟨of_decide_eq_true (by kernel_rfl),by kernel_rfl,by kernel_rfl,fun n=>prS (n+1) _ _⟩,
   ⟨of_decide_eq_true (by kernel_rfl),by kernel_rfl,by kernel_rfl,fun n=>prS (n+1) _ _⟩⟩
 rw[hl];exact z1G P1 (z1G P2 (z1G P3 (z1G P4 (z1G P5 (z1G P6 (z1G P7 zdC))))))
theorem zr1(k k':Int)(f n m f' n' m':ByteArray)(t o t' o':Int)(x y x' y':ByteArray):
  z04 Tryz.prog (do eqGuard .eql 51 (.const (.agg #[.int .i64 k,.string f,.string n,.string m,.int .i64 t,.int .i64 o,.string x,.string y])) (.const (.agg #[.int .i64 k',.string f',.string n',.string m',.int .i64 t',.int .i64 o',.string x',.string y'])) (.agg #[.int .i64 k,.string f,.string n,.string m,.int .i64 t,.int .i64 o,.string x,.string y]) (.agg #[.int .i64 k',.string f',.string n',.string m',.int .i64 t',.int .i64 o',.string x',.string y']);binOp .eql 51 (.agg #[.int .i64 k,.string f,.string n,.string m,.int .i64 t,.int .i64 o,.string x,.string y]) (.agg #[.int .i64 k',.string f',.string n',.string m',.int .i64 t',.int .i64 o',.string x',.string y']))=
  some (.pv (.v (.bool ((k==k')&&((f==f')&&((n==n')&&((m==m')&&(z0i ⟨t,o⟩ ⟨t',o'⟩&&((x==x')&&((y==y')&&true))))))))),.no):=by
 unfold z04;rw[z01];have hg:zr Tryz.prog (eqGuard .eql 51 (.const (.agg #[.int .i64 k,.string f,.string n,.string m,.int .i64 t,.int .i64 o,.string x,.string y])) (.const (.agg #[.int .i64 k',.string f',.string n',.string m',.int .i64 t',.int .i64 o',.string x',.string y'])) (.agg #[.int .i64 k,.string f,.string n,.string m,.int .i64 t,.int .i64 o,.string x,.string y]) (.agg #[.int .i64 k',.string f',.string n',.string m',.int .i64 t',.int .i64 o',.string x',.string y']))=some ():=by kernel_rfl
 rw[hg,Option.bind_some];have hb:binOp .eql 51 (.agg #[.int .i64 k,.string f,.string n,.string m,.int .i64 t,.int .i64 o,.string x,.string y]) (.agg #[.int .i64 k',.string f',.string n',.string m',.int .i64 t',.int .i64 o',.string x',.string y'])=(Op.equal 51 (.agg (chA k f n m t o x y)) (.agg (chA k' f' n' m' t' o' x' y'))>>=fun r=>pure (.bool r)):=rfl;rw[hb,z01,zkz];rfl
theorem zpe(a b:zB):(str a==str b)=(a==b):=by
 show((str a).data==(str b).data)=(a==b)
 rw[Bool.eq_iff_iff,beq_iff_eq,beq_iff_eq];constructor
 ·intro h;have:=congrArg Array.toList h;simpa [str]using this
 ·intro h;rw[h]
theorem zjI(g:Sh.Glob)(a b:Chg):zC g 66 [chT a,chT b] [] (B (z0m a b)) []:=by
 have H:=zr1 a.k b.k (str a.f) (str a.n) (str a.m) (str b.f) (str b.n) (str b.m) a.t.k a.t.o b.t.k b.t.o (str a.x) (str a.o) (str b.x) (str b.o);simp only[zpe]at H;refine za tf_42 ?_;unfold chT B z0m;simp only[vW,seval,H]
theorem z9X(m:Nat){s:zB}{r:V×Int×Int}(h:z14 1000 s=some r)(hl:s.length<4611686018427387904):TxOk m s:=by
 have e:rdV s=r:=by unfold rdV;rw[h];rfl
 refine⟨hl,fun _=> ?_,fun _=> ?_⟩
 ·rw[e];exact z9T (zll m s h)
 ·rw[e];unfold z14 at h;split at h
  ·cases h;exact z5W
  ·split at h
   ·cases h
   ·cases h;exact z5W
   ·rename_i L hL;split at h
    ·rename_i e p hp;split at h
     ·cases h;exact z5W
     ·split at h
      ·cases h;exact(z6W (z3L _ _ _ _ _ (by simp) hL).1 _ _).1 _ _ _ _ hp
      ·cases h;exact z5W
    ·cases h;exact z5W
    ·cases h
theorem zgn(m:Nat):TxOk m []:=⟨by simp,fun h=>absurd rfl h,fun h=>absurd rfl h⟩
end
end Go.Proofs.YtbkgnekfigknhaaGreatDoor
end
