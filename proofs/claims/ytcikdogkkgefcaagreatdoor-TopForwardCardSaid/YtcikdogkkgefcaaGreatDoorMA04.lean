/- The plain words of the layer of terms: nodes, arenas as lists of nodes, which is the greater one, what may be made, what making gives. Comparing is an order; making keeps an arena good. -/
import Derived.KernelRfl
import Derived.Deep.Slices
import Derived.Deep.Fields
import Derived.Below
import Derived.ChangeOld
import Derived.Test.YtcikdogkkgefcaaGreatDoorMA03
namespace Go.Proofs.YtcikdogkkgefcaaGreatDoor
set_option maxRecDepth 8000
set_option maxHeartbeats 16000000
set_option linter.unusedVariables false
set_option linter.unusedSimpArgs false
open Go Go.RowKit
structure Nd where
 k:Int
 n:Int
 a:Int
 b:Int
 c:Int
deriving DecidableEq
def Nd.z:Nd:=⟨0,0,0,0,0⟩
def has (L:List Nd)(x:Int):Bool:=decide (0≤x) && decide (x<L.length)
def nd (L:List Nd)(x:Int):Nd:=L.getD x.toNat Nd.z
def sgn (x y:Int):Int:=if x<y then -1 else if y<x then 1 else 0
def lx (a b:Int):Int:=if a≠0 then a else b
def cmpF:Nat→List Nd→Int→Int→Int
 | 0,_,_,_=>0
 | f+1,L,x,y =>
   if x=y then 0
   else if has L x=true∧has L y=true then
    lx (sgn (nd L x).k (nd L y).k) (lx (sgn (nd L x).n (nd L y).n)
     (lx (cmpF f L (nd L x).a (nd L y).a) (lx (cmpF f L (nd L x).b (nd L y).b) (cmpF f L (nd L x).c (nd L y).c))))
   else if has L x=true then -1
   else if has L y=true then 1
   else sgn x y
def cmp (L:List Nd)(x y:Int):Int:=cmpF (L.length+1) L x y
structure Wf (L:List Nd):Prop where
 pos:0<L.length
 zero:nd L 0=Nd.z
 pa:∀x:Int,0<x→x<L.length→0≤(nd L x).a∧(nd L x).a<x
 pb:∀x:Int,0<x→x<L.length→0≤(nd L x).b∧(nd L x).b<x
 pc:∀x:Int,0<x→x<L.length→0≤(nd L x).c∧(nd L x).c<x
theorem zAV {L:List Nd}{x:Int}:has L x=true↔0≤x∧x<L.length:=by simp[has]
theorem zI0 {L:List Nd}(hw:Wf L):∀(f g:Nat) (x y:Int),1≤f→1≤g→(has L x=true→x<f∧x<g)→(has L y=true→y<f∧y<g) →
 cmpF f L x y=cmpF g L x y:=by
 intro f;induction f with
 | zero=>intro g x y h;omega
 | succ f ih =>
   intro g x y _ hg hx hy;obtain⟨g,rfl⟩:∃m,g=m+1:=⟨g - 1,by omega⟩
   simp only[cmpF];by_cases e:x=y
   · simp[e]
   rw[if_neg e,if_neg e];by_cases hh:has L x=true∧has L y=true
   · rw[if_pos hh,if_pos hh]
     obtain⟨h1,h2⟩:=hh;have bx:=hx h1;have by':=hy h2
     rw[zAV]at h1 h2;have hf:1≤f∧1≤g:=by omega
     have parts:∀z:Int,0≤z→z<L.length→z<f+1→z<g+1 →
      ((nd L z).a<f∧(nd L z).a<g)∧((nd L z).b<f∧(nd L z).b<g)∧((nd L z).c<f∧(nd L z).c<g):=by
      intro z z0 zl zf zg;by_cases hz:z=0
      · subst hz;rw[hw.zero];simp[Nd.z];omega
      · have:=hw.pa z (by omega) zl
        have:=hw.pb z (by omega) zl;have:=hw.pc z (by omega) zl;omega
     have px:=parts x h1.1 h1.2 (by omega) (by omega);have py:=parts y h2.1 h2.2 (by omega) (by omega);rw[ih g _ _ hf.1 hf.2 (fun _=>px.1) (fun _=>py.1),ih g _ _ hf.1 hf.2 (fun _=>px.2.1) (fun _=>py.2.1),ih g _ _ hf.1 hf.2 (fun _=>px.2.2) (fun _=>py.2.2)]
   · rw[if_neg hh,if_neg hh]
theorem zUb {L:List Nd}(hw:Wf L)(x y:Int):cmp L x y =
 if x=y then 0
 else if has L x=true∧has L y=true then
  lx (sgn (nd L x).k (nd L y).k) (lx (sgn (nd L x).n (nd L y).n)
   (lx (cmp L (nd L x).a (nd L y).a) (lx (cmp L (nd L x).b (nd L y).b) (cmp L (nd L x).c (nd L y).c))))
 else if has L x=true then -1
 else if has L y=true then 1
 else sgn x y:=by
 have hp:=hw.pos;have parts:∀z:Int,has L z=true→(nd L z).a<L.length∧(nd L z).b<L.length∧(nd L z).c<L.length:=by
  intro z hz;rw[zAV]at hz;by_cases h0:z=0
  · subst h0;rw[hw.zero];simp[Nd.z];omega
  · have:=hw.pa z (by omega) hz.2
    have:=hw.pb z (by omega) hz.2;have:=hw.pc z (by omega) hz.2;omega
 unfold cmp;conv=>lhs;unfold cmpF
 by_cases e:x=y
 · simp[e]
 rw[if_neg e,if_neg e];by_cases hh:has L x=true∧has L y=true
 · rw[if_pos hh,if_pos hh]
   have px:=parts x hh.1;have py:=parts y hh.2;rw[zI0 hw L.length (L.length+1) _ _ (by omega) (by omega) (fun _=>⟨px.1,by omega⟩) (fun _=>⟨py.1,by omega⟩),
    zI0 hw L.length (L.length+1) _ _ (by omega) (by omega) (fun _=>⟨px.2.1,by omega⟩) (fun _=>⟨py.2.1,by omega⟩),
    zI0 hw L.length (L.length+1) _ _ (by omega) (by omega) (fun _=>⟨px.2.2,by omega⟩) (fun _=>⟨py.2.2,by omega⟩)]
 · rw[if_neg hh,if_neg hh]
def many (k:Int):Int :=
 if k=2 then 1 else if k=7 then 3 else if k=0∨k=1∨k=9 then 0 else 2
def zBy (L:List Nd)(m j p:Int):Bool:=if j<m then has L p else decide (p=0)
def zBW (n:Nd):Bool :=
 if n.k=1∨n.k=7∨n.k=9 then true
 else if n.k=6 then decide (1≤n.n) && decide (n.n≤4)
 else decide (n.n=0)
def right (L:List Nd)(n:Nd):Bool :=
 decide (0≤n.k) && decide (n.k≤9) && zBW n &&
 zBy L (many n.k) 0 n.a && zBy L (many n.k) 1 n.b && zBy L (many n.k) 2 n.c &&
 (if n.k=3 then decide (cmp L n.a n.b≤0) else if n.k=4 then decide ((nd L n.b).k≠2) else true)
def zFT:List Nd→Nd→Nat→Option Nat
 | [],_,_=>none
 | m::L,n,i=>if n=m then some i else zFT L n (i+1)
def find (L:List Nd)(n:Nd):Option Nat:=zFT L n 0
def mk (lim:Nat)(L:List Nd)(n:Nd):List Nd × Int × Int :=
 if right L n=true then
  match find L n with
  | some i=>(L,i,0)
  | none=>if lim≤L.length then(L,0,3) else(L++[n],L.length,0)
 else(L,0,1)
def share (lim:Nat)(L:List Nd)(x y:Int):List Nd × Int × Int :=
 if has L x=true∧has L y=true then
  if(nd L y).k≠2 then mk lim L ⟨4,0,x,y,0⟩
  else if cmp L x (nd L y).a>0 then mk lim L ⟨3,0,(nd L y).a,x,0⟩
  else mk lim L ⟨3,0,x,(nd L y).a,0⟩
 else(L,0,1)
def room (limit:Int):Nat:=(min (max limit 1) 65536).toNat
theorem zVP {a b:Int}(h:a≠0):lx a b=a:=by unfold lx;rw[if_pos h]
theorem zL7 (b:Int):lx 0 b=b:=by simp[lx]
theorem zTe (a b c:Int):lx (lx a b) c=lx a (lx b c):=by
 by_cases h:a=0
 · subst h;simp only[zL7]
 · rw[zVP h,zVP h,zVP h]
def Uniq (L:List Nd):Prop:=∀x y,has L x=true→has L y=true→nd L x=nd L y→x=y
section
variable {L:List Nd}(hw:Wf L)(hu:Uniq L)
include hw
theorem zTR {m:Nat}{x:Int}(hx:has L x=true)(hm:x<m):has L (nd L x).a=true∧has L (nd L x).b=true∧has L (nd L x).c=true ∧
 (0<x→(nd L x).a<x∧(nd L x).b<x∧(nd L x).c<x):=by
 rw[zAV]at hx;by_cases h0:x=0
 · subst h0
   have hp:=hw.pos;rw[hw.zero];refine⟨?_,?_,?_,by omega⟩<;>(rw[zAV];simp[Nd.z];omega)
 · have h1:=hw.pa x (by omega) hx.2
   have h2:=hw.pb x (by omega) hx.2;have h3:=hw.pc x (by omega) hx.2;refine⟨?_,?_,?_,fun _=>⟨h1.2,h2.2,h3.2⟩⟩<;>(rw[zAV];omega)
include hu
end
def shape (n:Nd):Prop :=
 0≤n.k∧n.k≤9∧zBW n=true∧(many n.k≤0→n.a=0)∧(many n.k≤1→n.b=0)∧(many n.k≤2→n.c=0)
structure Good (lim:Nat)(L:List Nd):Prop where
 wf:Wf L
 uniq:Uniq L
 shape:∀x,has L x=true→shape (nd L x)
 len:L.length≤lim
 lim:lim≤65536
theorem zEq {L:List Nd}{x:Int}(h:has L x=true):∃i:Nat,x=i∧i<L.length:=by
 rw[zAV]at h;exact⟨x.toNat,by omega,by omega⟩
theorem zIi {L:List Nd}{i:Nat}(h:i<L.length):has L i=true:=by rw[zAV];omega
theorem zIT {L:List Nd}{i:Nat}(h:i<L.length):nd L i=L[i]:=by
 simp[nd,List.getD,List.getElem?_eq_getElem h]
theorem zWP {L:List Nd}{x:Int}(h:L.length≤x):nd L x=Nd.z:=by
 have:L.length≤x.toNat:=by omega
 simp[nd,List.getD,List.getElem?_eq_none this]
theorem zAt {L M:List Nd}{x:Int}(h:has L x=true):nd (L++M) x=nd L x:=by
 obtain⟨i,rfl,hi⟩:=zEq h;rw[zIT hi,zIT (by simp;omega)];simp[List.getElem_append_left hi]
theorem zEG {L:List Nd}{n:Nd}:nd (L++[n]) L.length=n:=by
 rw[zIT (by simp)];simp
theorem zBo {L M:List Nd}{x:Int}(h:has L x=true):has (L++M) x=true:=by
 rw[zAV]at *;simp;omega
theorem zGT {L:List Nd}{n:Nd}{x:Int}:has (L++[n]) x=true↔has L x=true∨x=L.length:=by
 rw[zAV,zAV];simp;omega
theorem zFn {n:Nd}:∀{L:List Nd} {i j:Nat},zFT L n i=some j→i≤j∧L[j - i]? = some n
 | [],_,_,h=>by simp[zFT]at h
 | m::L,i,j,h=>by
   simp only[zFT]at h;split at h
   · simp at h;subst h;rename_i e;simp[e]
   · have:=zFn h
     refine⟨by omega,?_⟩;rw[show j - i=(j - (i+1))+1 by omega,List.getElem?_cons_succ];exact this.2
theorem zIm {n:Nd}:∀{L:List Nd} {i:Nat},zFT L n i=none→n∉L
 | [],_,_=>by simp
 | m::L,i,h=>by
   simp only[zFT]at h;split at h
   · cases h
   · rename_i e
     have:=zIm h;simp[e,this]
theorem zGZ {L:List Nd}{n:Nd}{i:Nat}(h:find L n=some i):i<L.length∧nd L i=n:=by
 have:=(zFn h).2;simp only[Nat.sub_zero]at this;have hi:i<L.length:=(List.getElem?_eq_some_iff.1 this).1;refine⟨hi,?_⟩;rw[zIT hi];exact(List.getElem?_eq_some_iff.1 this).2
theorem zIl {L:List Nd}{n:Nd}(h:find L n=none):∀x,has L x=true→nd L x≠n:=by
 intro x hx e;obtain⟨i,rfl,hi⟩:=zEq hx;rw[zIT hi]at e;exact zIm h (e ▸ List.getElem_mem hi)
theorem zVo {L:List Nd}(hu:Uniq L){x:Int}(hx:has L x=true):find L (nd L x)=some x.toNat:=by
 cases h:find L (nd L x)with
 | none=>exact absurd rfl (zIl h x hx)
 | some i =>
   obtain⟨h1,h2⟩:=zGZ h;have:=hu i x (zIi h1) hx h2;congr 1
   omega
theorem zJd {L:List Nd}{n:Nd}(h:right L n=true):shape n∧(0<many n.k→has L n.a=true)∧(1<many n.k→has L n.b=true)∧(2<many n.k→has L n.c=true) ∧
 (n.k=3→cmp L n.a n.b≤0)∧(n.k=4→(nd L n.b).k≠2):=by
 unfold right zBy at h;simp only[Bool.and_eq_true,decide_eq_true_eq]at h;obtain⟨⟨⟨⟨⟨⟨h1,h2⟩,h3⟩,h4⟩,h5⟩,h6⟩,h7⟩:=h;refine⟨⟨h1,h2,h3,fun hm=>?_,fun hm=>?_,fun hm=>?_⟩,fun hm=>?_,fun hm=>?_,fun hm=>?_,fun hk=>?_,fun hk=>?_⟩
 · rw[if_neg (by omega)]at h4;simpa using h4
 · rw[if_neg (by omega)]at h5;simpa using h5
 · rw[if_neg (by omega)]at h6;simpa using h6
 · rw[if_pos (by omega)]at h4;exact h4
 · rw[if_pos (by omega)]at h5;exact h5
 · rw[if_pos (by omega)]at h6;exact h6
 · rw[if_pos hk]at h7;simpa using h7
 · rw[if_neg (by omega),if_pos hk]at h7;simpa using h7
theorem zVO (k:Int):0≤many k∧many k≤3:=by unfold many;repeat' split<;>omega
theorem zNC {L:List Nd}{n:Nd}(hp:0<L.length)(h:right L n=true):has L n.a=true∧has L n.b=true∧has L n.c=true:=by
 obtain⟨⟨_,_,_,z1,z2,z3⟩,p1,p2,p3,_⟩:=zJd h;have hz:has L 0=true:=by rw[zAV];omega
 refine⟨?_,?_,?_⟩
 · by_cases hm:0<many n.k
   · exact p1 hm
   · rw[z1 (by omega)];exact hz
 · by_cases hm:1<many n.k
   · exact p2 hm
   · rw[z2 (by omega)];exact hz
 · by_cases hm:2<many n.k
   · exact p3 hm
   · rw[z3 (by omega)];exact hz
theorem Good.snoc {lim:Nat}{L:List Nd}(g:Good lim L){n:Nd}(hr:right L n=true)(hf:find L n=none)(hl:L.length<lim):Good lim (L++[n]):=by
 have hp:=g.wf.pos;obtain⟨pa,pb,pc⟩:=zNC hp hr;rw[zAV]at pa pb pc;have old:∀x:Int,0≤x→x<L.length→nd (L++[n]) x=nd L x:=fun x h0 h1=>zAt (by rw[zAV];omega)
 have cases':∀x:Int,x<((L++[n]).length:Nat)→0≤x→x<L.length∨x=L.length:=fun x h _=>by simp at h;omega
 refine⟨⟨by simp,?_,?_,?_,?_⟩,?_,?_,by simp;omega,g.lim⟩
 · rw[old 0 (by omega) (by omega)];exact g.wf.zero
 · intro x h0 h1
   rcases cases' x h1 (by omega)with h|h
   · rw[old x (by omega) h];exact g.wf.pa x h0 h
   · subst h;rw[zEG];omega
 · intro x h0 h1
   rcases cases' x h1 (by omega)with h|h
   · rw[old x (by omega) h];exact g.wf.pb x h0 h
   · subst h;rw[zEG];omega
 · intro x h0 h1
   rcases cases' x h1 (by omega)with h|h
   · rw[old x (by omega) h];exact g.wf.pc x h0 h
   · subst h;rw[zEG];omega
 · intro x y hx hy e
   rcases zGT.1 hx with h1|h1<;>rcases zGT.1 hy with h2|h2
   · rw[zAt h1,zAt h2]at e;exact g.uniq x y h1 h2 e
   · subst h2;rw[zAt h1,zEG]at e;exact absurd e (zIl hf x h1)
   · subst h1;rw[zAt h2,zEG]at e;exact absurd e.symm (zIl hf y h2)
   · rw[h1,h2]
 · intro x hx
   rcases zGT.1 hx with h|h
   · rw[zAt h];exact g.shape x h
   · subst h;rw[zEG];exact(zJd hr).1
theorem zOp {lim:Nat}(h1:1≤lim)(h2:lim≤65536):Good lim [Nd.z]:=by
 have only:∀x:Int,has [Nd.z] x=true→x=0:=fun x h=>by rw[zAV]at h;simp at h;omega
 refine⟨⟨by simp,rfl,?_,?_,?_⟩,?_,?_,by simpa using h1,h2⟩
 · intro x h0 hx;simp at hx;omega
 · intro x h0 hx;simp at hx;omega
 · intro x h0 hx;simp at hx;omega
 · intro x y hx hy _;rw[only x hx,only y hy]
 · intro x hx
   rw[only x hx];simp[nd,shape,Nd.z,zBW,many]
theorem zCx (lim:Nat)(L:List Nd)(n:Nd) :
 (mk lim L n=(L,0,1)∧right L n=false)∨(∃i:Nat,mk lim L n=(L,(i:Int),0)∧right L n=true∧find L n=some i) ∨
 (mk lim L n=(L,0,3)∧right L n=true∧find L n=none∧lim≤L.length)∨(mk lim L n=(L++[n],(L.length:Int),0)∧right L n=true∧find L n=none∧L.length<lim):=by
 unfold mk;cases hr:right L n with
 | false=>exact .inl ⟨by simp,rfl⟩
 | true =>
   cases hf:find L n with
   | some i=>exact .inr (.inl ⟨i,by simp,rfl,rfl⟩)
   | none =>
     by_cases hl:lim≤L.length
     · exact .inr (.inr (.inl ⟨by simp[hl],rfl,rfl,hl⟩))
     · exact .inr (.inr (.inr ⟨by simp[hl],rfl,rfl,by omega⟩))
theorem zDd {lim:Nat}{L:List Nd}(g:Good lim L)(n:Nd):Good lim (mk lim L n).1:=by
 rcases zCx lim L n with ⟨h,_⟩|⟨i,h,_⟩|⟨h,_⟩|⟨h,hr,hf,hl⟩<;>rw[h]
 · exact g
 · exact g
 · exact g
 · exact g.snoc hr hf hl
theorem zDs (lim:Nat)(L:List Nd)(n:Nd):∃M,(mk lim L n).1=L++M:=by
 rcases zCx lim L n with ⟨h,_⟩|⟨i,h,_⟩|⟨h,_⟩|⟨h,_⟩<;>rw[h]
 · exact⟨[],by simp⟩
 · exact⟨[],by simp⟩
 · exact⟨[],by simp⟩
 · exact⟨[n],rfl⟩
theorem zKm {lim:Nat}{L:List Nd}{n:Nd}(h:(mk lim L n).2.2=0):has (mk lim L n).1 (mk lim L n).2.1=true∧nd (mk lim L n).1 (mk lim L n).2.1=n:=by
 rcases zCx lim L n with ⟨h1,_⟩|⟨i,h1,_,hf⟩|⟨h1,_⟩|⟨h1,_⟩<;>rw[h1]at h ⊢
 · cases h
 · have:=zGZ hf
   exact⟨zIi this.1,this.2⟩
 · cases h
 · exact⟨zGT.2 (.inr rfl),zEG⟩
theorem zUS (lim:Nat)(L:List Nd)(n:Nd):(mk lim L n).2.2=0∨(mk lim L n).2.1=0∧(mk lim L n).1=L∧((mk lim L n).2.2=1∨(mk lim L n).2.2=3):=by
 rcases zCx lim L n with ⟨h1,_⟩|⟨i,h1,_,hf⟩|⟨h1,_⟩|⟨h1,_⟩<;>rw[h1]
 · exact .inr ⟨rfl,rfl,.inl rfl⟩
 · exact .inl rfl
 · exact .inr ⟨rfl,rfl,.inr rfl⟩
 · exact .inl rfl
def zDi (p:Int→Bool):List Int→Int→Int
 | [],_ => -1
 | x::l,i=>if p x=true then i else zDi p l (i+1)
theorem zR6 {we w:World}{ρ:List (Nat × Obj)}{σ:List HP}{xs:List Int}{b off cap:Nat}{l:List Value}{el:TypeId}{fr:Nat × Nat}{g:FuncId}{cs:List Value}(p:Int→Bool)
 (hS:St we ρ σ w) (hr:Rd ρ σ b (.cells l.toArray el fr)) (hl:∀(i:Nat) (x:Int),xs[i]? = some x→l[off+i]? = some (pI x)) (hm:xs.length≤maxLen)
 (hg:fnB Tryz.prog g=true) (hf:∀x w,St we ρ σ w→Cl Tryz.prog g (([]:List Value)++[Value.int .i64 x]++cs) w fun v w'=>v = .bool (p x)∧St we ρ σ w') :
 Cl Tryz.prog 76 [.slice (some ⟨b,off,none⟩) xs.length cap,.func (.func g) #[] cs.toArray] w fun v w'=>v = pI (zDi p xs 0)∧St we ρ σ w':=by
 unfold maxLen at hm;refine Run.calls2 (n:=19) Tryz.func76 rfl rfl rfl ?_;repeat' first|apply Qs|apply Qr|apply Qn|refine Ql ?_|apply Qb
 refine Run.while (fun i:Nat=>[(0,.slice (some ⟨b,off,none⟩) xs.length cap),(1,.func (.func g) #[] cs.toArray),(7,pI xs.length),(8,pI i)])
  (fun i w=>i≤xs.length∧zDi p xs 0=zDi p (xs.drop i) i∧St we ρ σ w) (fun i=>xs.length - i) 0 ⟨by omega,by simp,hS⟩ (by exact Sb) ?_
 clear hS;rintro i w ⟨hi,hfirst,hS⟩ ih;by_cases hlt:i<xs.length
 · have hx:xs[i]? = some xs[i]:=List.getElem?_eq_getElem hlt
   have hli:=hl i _ hx;have hd:xs.drop i=xs[i]::xs.drop (i+1):=List.drop_eq_getElem_cons hlt;repeat' first|(apply RO.op;apply OP.callV;rfl;exact hg;rfl;rfl;exact hf _ _ hS;clear hS;rintro v w1 ⟨rfl,hS⟩;refine RO.splitB ?_ ?_<;>intro hb)|(refine RO.still (Still.load rfl rfl hr hli) hS rfl ?_)|apply Qs|apply Qr|(apply Rs<;>intro hc<;>try exact No)|apply Qn|refine Ql ?_|refine Qt ?_|refine Qf ?_|apply Qk|apply Qb|apply Qi
   · refine Qw Tryz.func76 ?_
     exact⟨by rw[hfirst,hd];simp[zDi,hb,tup],hS⟩
   · refine Run.weaken (e':=[_,_,_,(8,pI ((i+1:Nat):Int))]) (by exact Sb) (ih (i+1) _ ⟨by omega,?_,hS⟩ (by omega))
     rw[hfirst,hd];simp[zDi,hb]
 · obtain rfl:i=xs.length:=by omega
   repeat' first|apply Qs|apply Qr|(apply Rs<;>intro hc<;>try exact No)|apply Qn|refine Ql ?_|refine Qf ?_|refine Qe ?_
   refine Qw Tryz.func76 ?_;exact⟨by rw[hfirst];simp[zDi,tup],hS⟩
theorem zIk {p:Int→Bool}:∀{l:List Int} {i:Int},0≤i→(0≤zDi p l i↔l.any p=true)
 | [],i,_=>by simp[zDi]
 | x::l,i,hi=>by
   simp only[zDi,List.any_cons];cases hp:p x with
   | true=>simp[hi]
   | false=>simpa using zIk (p:=p) (l:=l) (i:=i+1) (by omega)
theorem zMX {we w:World}{ρ:List (Nat × Obj)}{σ:List HP}{xs:List Int}{b off cap:Nat}{l:List Value}{el:TypeId}{fr:Nat × Nat}{g:FuncId}{cs:List Value}(p:Int→Bool)
 (hS:St we ρ σ w) (hr:Rd ρ σ b (.cells l.toArray el fr)) (hl:∀(i:Nat) (x:Int),xs[i]? = some x→l[off+i]? = some (pI x)) (hm:xs.length≤maxLen)
 (hg:fnB Tryz.prog g=true) (hf:∀x w,St we ρ σ w→Cl Tryz.prog g (([]:List Value)++[Value.int .i64 x]++cs) w fun v w'=>v = .bool (p x)∧St we ρ σ w') :
 Cl Tryz.prog 38 [.slice (some ⟨b,off,none⟩) xs.length cap,.func (.func g) #[] cs.toArray] w fun v w'=>v = .bool (xs.any p)∧St we ρ σ w':=by
 refine Run.calls2 (n:=9) Tryz.func38 rfl rfl rfl ?_;have hn:=zIk (p:=p) (l:=xs) (i:=0) (by omega);repeat' first|(apply RO.op;apply OP.callF;rfl;rfl;rfl;exact zR6 p hS hr hl hm hg hf;clear hS;rintro v w1 ⟨rfl,hS⟩)|apply Qs|apply Qr|(apply Rs<;>intro hc<;>try exact No)|apply Qn|refine Ql ?_
 all_goals
  refine Qw Tryz.func38 ?_;refine⟨?_,hS⟩;simp only[tup];congr 1
  first
   | rw[hn.1 hc]
   | (cases h:xs.any p with
     | true=>exact absurd (hn.2 h) hc
     | false=>rfl)
def ndL (n:Nd):List Value:=[pI n.k,.int .u64 n.n,pI n.a,pI n.b,pI n.c]
def flat (L:List Nd):List Value:=L.flatMap ndL
def zNz (L:List Nd):Array MapEntry:=(L.zipIdx.map fun(n,i)=>⟨.agg (ndL n).toArray,pI i,i⟩).toArray
theorem zFl (L:List Nd):(flat L).length=5*L.length:=by
 induction L with
 | nil=>rfl
 | cons n L ih=>simp only[flat,List.flatMap_cons,List.length_append,List.length_cons]at *;simp[ndL]at *;omega
theorem zMI:∀(L:List Nd) (i:Nat),(flat L).drop (i*5)=flat (L.drop i)
 | L,0=>by simp
 | [],i+1=>by simp[flat]
 | n::L,i+1=>by
   have:=zMI L i;simp only[List.drop_succ_cons];rw[← this];simp only[flat,List.flatMap_cons];rw[show(i+1)*5=(ndL n).length+i*5 by simp[ndL];omega,List.drop_append];simp
theorem zCd {L:List Nd}{spare:List Value}{x:Int}(h:has L x=true):((flat L++spare).drop (x.toNat*5)).take 5=ndL (nd L x):=by
 obtain⟨i,rfl,hi⟩:=zEq h;simp only[Int.toNat_natCast];rw[List.drop_append_of_le_length (by rw[zFl];omega),zMI,List.drop_eq_getElem_cons hi,zIT hi];simp only[flat,List.flatMap_cons,List.append_assoc];simp[ndL]
theorem zGY {L:List Nd}{spare:List Value}{x:Int}(h:has L x=true)(j:Nat)(hj:j<5):(flat L++spare)[x.toNat*5+j]? = (ndL (nd L x))[j]?:=by
 have h1:=zCd (spare:=spare) h;have h2:(((flat L++spare).drop (x.toNat*5)).take 5)[j]? = (ndL (nd L x))[j]?:=by rw[h1]
 rw[List.getElem?_take,if_pos hj,List.getElem?_drop]at h2;exact h2
section
variable {L:List Nd}{spare:List Value}{x:Int}
theorem zDI (h:has L x=true):(flat L++spare)[x.toNat*5]? = some (pI (nd L x).k):=zGY h 0 (by omega)
theorem zDH (h:has L x=true):(flat L++spare)[x.toNat*5+1]? = some (.int .u64 (nd L x).n):=zGY h 1 (by omega)
theorem zDG (h:has L x=true):(flat L++spare)[x.toNat*5+2]? = some (pI (nd L x).a):=zGY h 2 (by omega)
theorem zDF (h:has L x=true):(flat L++spare)[x.toNat*5+3]? = some (pI (nd L x).b):=zGY h 3 (by omega)
theorem zDE (h:has L x=true):(flat L++spare)[x.toNat*5+4]? = some (pI (nd L x).c):=zGY h 4 (by omega)
end
abbrev zHB (p:Nat)(lim:Nat)(L:List Nd)(r m cap:Nat)(spare:List Value)(F:List HP):List HP :=
 Row p [pI lim,.slice (some ⟨r,0,none⟩) L.length cap,.map (some m)] 73 ::
 Row r (flat L++spare) 36::Blk m (.map (zNz L) L.length)::F
def zAA (p:Nat)(lim:Nat)(L:List Nd):HP :=
 HP.ex fun x:Nat × Nat × Nat × List Value=>HP.pure (Good lim L∧L.length≤x.2.2.1∧x.2.2.1≤maxLen∧x.2.2.2.length=5*(x.2.2.1 - L.length))
  (HP.star (Row p [pI lim,.slice (some ⟨x.1,0,none⟩) L.length x.2.2.1,.map (some x.2.1)] 73)
    (HP.star (Row x.1 (flat L++x.2.2.2) 36) (Blk x.2.1 (.map (zNz L) L.length))))
section
variable {we w:World}{ρ:List (Nat × Obj)}{F:List HP}{p lim:Nat}{L:List Nd}
theorem zCE (h:St we ρ (zAA p lim L::F) w):∃r m cap spare,Good lim L∧L.length≤cap∧cap≤maxLen∧spare.length=5*(cap - L.length)∧St we ρ (zHB p lim L r m cap spare F) w:=by
 obtain⟨⟨r,m,cap,spare⟩,h⟩:=St.ex h;obtain⟨⟨h1,h2,h3,h4⟩,h⟩:=St.pure h;have h:=St.star.1 h;exact⟨r,m,cap,spare,h1,h2,h3,h4,by
  have h5:=(h.take (.tail .head))
  have h6:=St.star.1 h5;exact((h6.take (.tail (.tail .head))))⟩
theorem zA7 (h:St we ρ (zAA p lim L::F) w):Good lim L∧St we ρ (zAA p lim L::F) w:=by
 obtain⟨_,h1⟩:=St.ex h;exact⟨(St.pure h1).1.1,h⟩
theorem zBp {r m cap:Nat}{spare:List Value}(h1:Good lim L)(h2:L.length≤cap)(h3:cap≤maxLen)(h4:spare.length=5*(cap - L.length))(h:St we ρ (zHB p lim L r m cap spare F) w):St we ρ (zAA p lim L::F) w:=by
 refine St.ex_mk (r,m,cap,spare) (St.pure_mk ⟨h1,h2,h3,h4⟩ (St.star.2 ?_));have h5:=h.take (.tail .head);have h6:=h5.take (.tail (.tail .head));have h7:St we ρ (HP.star (Row r (flat L++spare) 36) (Blk m (.map (zNz L) L.length))::Row p [pI lim,.slice (some ⟨r,0,none⟩) L.length cap,.map (some m)] 73::F) w:=by
  refine St.star.2 ?_;exact(h6.take (.tail .head))
 exact h7.take (.tail .head)
end
attribute [irreducible] zAA
theorem zJx {we w:World}{ρ:List (Nat × Obj)}{F:List HP}{p lim q:Nat}{L:List Nd}{x:Int}
 (hS:St we ρ (zAA p lim L::Row q [pP p] 38::F) w) :
 Cl Tryz.prog 39 [pI x,pP q] w fun v w'=>v = .bool (!has L x)∧St we ρ (zAA p lim L::Row q [pP p] 38::F) w':=by
 obtain⟨r,m,cap,spare,g1,g2,g3,g4,hS⟩:=zCE hS;refine Run.calls2 (n:=15) Tryz.func39 rfl rfl rfl ?_;repeat' first|apply Qs|apply Qr|(apply Rs<;>intro hc<;>try exact No)|apply Qn|refine Ql ?_|refine Qy ?_|refine Qz ?_
 all_goals
  refine Qw Tryz.func39 ?_;refine⟨?_,zBp g1 g2 g3 g4 hS⟩;simp only[tup,has];congr 1
  simp;omega
theorem zR5 {xs:List Int}:∀(i:Nat) (x:Int),xs[i]? = some x→(xs.map (Value.int .i64))[0+i]? = some (pI x):=by
 intro i x h;simp[h]
theorem zNp {a:Int}:∀(i:Nat) (x:Int),[a][i]? = some x→[Value.int .i64 a][0+i]? = some (pI x):=zR5 (xs:=[a])
theorem zTq {a b:Int}:∀(i:Nat) (x:Int),[a,b][i]? = some x→[Value.int .i64 a,Value.int .i64 b][0+i]? = some (pI x):=zR5 (xs:=[a,b])
theorem len1 {a:Int}:[a].length≤maxLen:=by simp[maxLen]
theorem len2 {a b:Int}:[a,b].length≤maxLen:=by simp[maxLen]
theorem zBl {we w:World}{ρ:List (Nat × Obj)}{F:List HP}{p lim:Nat}{L:List Nd}{xs:List Int}{b off cap:Nat}{l:List Value}{el:TypeId}{fr:Nat × Nat}
 (hS:St we ρ (zAA p lim L::F) w) (hr:Rd ρ F b (.cells l.toArray el fr)) (hl:∀(i:Nat) (x:Int),xs[i]? = some x→l[off+i]? = some (pI x)) (hm:xs.length≤maxLen) :
 Cl Tryz.prog 22 [pP p,.slice (some ⟨b,off,none⟩) xs.length cap] w fun v w'=>v = .bool (xs.all (has L))∧St we ρ (zAA p lim L::F) w':=by
 refine Run.calls2 (n:=9) Tryz.func22 rfl rfl rfl ?_;have hall:(!xs.any fun x=>!has L x)=xs.all (has L):=by rw[List.not_any_eq_all_not];simp
 repeat' first|(apply RO.op;apply OP.callF;rfl;rfl;rfl;exact zMX (cs:=[_]) (fun x=>!has L x) (hS.take (.tail .head)) hr.tail.tail hl hm rfl (fun x w hS=>zJx hS);clear hS;rintro v w1 ⟨rfl,hS⟩)|apply Qs|apply Qr|apply Qn|refine Ql ?_|(refine Qx ?_;clear hS;intro b w1 hS)
 refine Qw Tryz.func22 ?_;exact⟨by simp only[tup,hall],hS.drop (.tail .head)⟩
section
open Go.ChangeShapes Go.WideShapes Go.Deep
structure Sl {α:Type}(ρ:List (Nat × Obj))(g : α→List Value)(size:Nat)(v:Value)(l:List α):Prop where
 val:∃p cap,v = .slice p l.length cap∧l.length≤cap∧cap≤maxLen∧(0<l.length→∃b off cs el fr,p=some ⟨b,off,none⟩∧(b,Obj.cells (List.toArray cs) el fr) ∈ ρ ∧
  ∀(i:Nat) (h:i<l.length),(cs.drop (off+i*size)).take size=g l[i])
theorem Sl.mono {α:Type}{ρ ρ':List (Nat × Obj)}{g : α→List Value}{size:Nat}{v:Value}{l:List α}(h:Sl ρ g size v l)(hs:∀x ∈ ρ,x ∈ ρ'):Sl ρ' g size v l:=by
 obtain⟨p,cap,h1,h2,h3,h4⟩:=h;refine⟨p,cap,h1,h2,h3,fun h0=>?_⟩;obtain⟨b,off,cs,el,fr,e1,e2,e3⟩:=h4 h0;exact⟨b,off,cs,el,fr,e1,hs _ e2,e3⟩
theorem zH4 {cs:List Value}{k m:Nat}{xs:List Value}(hl:xs.length=m)(h:∀j,j<m→cs[k+j]? = xs[j]?):(cs.drop k).take m=xs:=by
 apply List.ext_getElem?;intro j;rw[List.getElem?_take];by_cases hj:j<m
 · rw[if_pos hj,List.getElem?_drop,h j hj]
 · rw[if_neg hj,List.getElem?_eq_none (by omega)]
section
variable {H:Type}{enc:TypeId × Value→H}{P:Program}{W:World}{base:Nat}{sp:Nat→Bool}{held:Bool}
theorem zKA {w:World}{a:Addr}{v:Value}(h:w.cell? a=some v):∃cs el fr,w.heap[a.block]? = some (.cells cs el fr)∧a.spot=none∧cs[a.off]? = some v:=by
 unfold World.cell? at h;split at h
 · rename_i c el fr hh
   split at h
   · cases h
   · rename_i hs
     exact⟨c,el,fr,hh,by cases hq:a.spot<;>simp_all,h⟩
 · cases h
theorem zI5 (a:Addr)(i j:Nat):(a.add i).add j=a.add (i+j):=by
 unfold Addr.add;by_cases hi:i=0<;>by_cases hj:j=0<;>simp[hi,hj,Nat.add_assoc]
theorem zVA {α:Type}[Inhabited α]{r:Reach}{b0:Nat}{g : α→List Value}{size:Nat}{Q : α→Prop}{t e:TypeId}{v:Value}{d:DataW H}{ps:List MemPlace}
 (ht:P.underlying t=some (.slice e)) (hC:P.cellsOf e=size) (hs:0<size)
 (hel:∀n cs x,DataW.trod enc P W base (fun _=>true) held n e cs=some x→cs.length=size→∃a,cs=g a∧Q a)
 (hval:Value.okWide P W r b0 t v) (h:DataW.Trod enc P W base (fun _=>true) held t v d ps) :
 ∃(ρ:List (Nat × Obj)) (l:List α),(∀x ∈ ρ,W.heap[x.1]? = some x.2)∧Sl ρ g size v l∧∀a∈l,Q a:=by
 obtain⟨pa,len,cap,rfl⟩:=okWide_slice ht hval;obtain⟨fuel,hf⟩:=h;simp only[Value.cells]at hf;rcases open_slice ht hf with ⟨hcs,_⟩|⟨a,len',cap',m,n,D,Pl,hcs,hb,hl,hm,hmm,_,hx⟩
 · simp only[List.cons.injEq,Value.slice.injEq,and_true]at hcs
   obtain⟨rfl,rfl,rfl⟩:=hcs;exact⟨[],[],by simp,⟨none,0,rfl,by simp,Nat.zero_le _,by simp⟩,by simp⟩
 · simp only[List.cons.injEq,Value.slice.injEq,and_true]at hcs
   obtain⟨rfl,rfl,rfl⟩:=hcs;simp only[if_true]at hmm;subst hmm;rw[hC]at hx;obtain⟨f,hf⟩:=choose_lt (α := α) (n:=m) (p:=fun i y=>(∀j,j<size→W.cell? (a.add (i*size+j))=(g y)[j]?)∧(g y).length=size∧Q y) (fun i hi=>by
    obtain⟨cs',hc,htr⟩:=hx i hi;obtain⟨_,hlen,hcell⟩:=World.cells?_some hc;obtain⟨y,rfl,hq⟩:=hel _ _ _ htr hlen;exact⟨y,fun j hj=>by rw[← zI5];exact hcell j hj,hlen,hq⟩)
   by_cases h0:len=0
   · subst h0
     exact⟨[],[],by simp,⟨some a,m,rfl,by simp,hm,by simp⟩,by simp⟩
   · have hc0:∃v0,W.cell? (a.add (0*size+0))=some v0:=by
      have h1:=(hf 0 (by omega)).1 0 hs;have h2:=(hf 0 (by omega)).2.1;exact⟨_,h1.trans (List.getElem?_eq_getElem (by omega))⟩
     obtain⟨v0,hc0⟩:=hc0;obtain⟨cs,el,fr,hh,hsp,_⟩:=zKA hc0;obtain⟨b,off,spot⟩:=a;have hsp':spot=none:=by simpa[Addr.add]using hsp
     subst hsp';have hh':W.heap[b]? = some (.cells cs.toList.toArray el fr):=by simpa[Addr.add]using hh
     refine⟨[(b,.cells cs.toList.toArray el fr)],(List.range len).map f,by simpa using hh',⟨some ⟨b,off,none⟩,m,by simp,by simpa using hl,hm,fun _=>⟨b,off,cs.toList,el,fr,rfl,by simp,fun i hi=>?_⟩⟩,?_⟩
     · simp only[List.length_map,List.length_range]at hi
       obtain⟨h1,h2,_⟩:=hf i (by omega);simp only[List.getElem_map,List.getElem_range];refine zH4 h2 (fun j hj=>?_);rw[← h1 j hj,Addr.add_lit];simp[World.cell?,hh',Nat.add_assoc]
     · intro y hy
       obtain⟨i,hi,rfl⟩:=List.mem_map.1 hy;exact(hf i (by have:=List.mem_range.1 hi;omega)).2.2
theorem zIt {e:TypeId}{fs:Array Field}{n:Nat}{cs:List Value}{x:DataW H × List MemPlace}(he:P.underlying e=some (.struct fs))(hone:oneCellFields P fs=true)
 (h:DataW.trod enc P W base sp held n e cs=some x) (hl:cs.length=fs.size):∀(j:Nat) (f:Field) (u:Value),fs[j]? = some f→cs[j]? = some u→∃n' y,DataW.trod enc P W base sp held n' f.type [u]=some y:=by
 obtain⟨xs,n',_,_,_,hxl,hf⟩:=DataW.trod_struct he h;intro j f u hj hu;obtain⟨ho,hk⟩:=hone_of hone j f hj;have h1:=hf j f hj;rw[ho,hk]at h1;have hjl:j<fs.size:=(Array.getElem?_eq_some_iff.1 hj).1;have h2:(cs.drop j).take 1=[u]:=by
  have:j<cs.length:=by omega
  rw[List.drop_eq_getElem_cons this];rw[List.getElem?_eq_getElem this]at hu;simp at hu;simp[hu]
 rw[h2,List.getElem?_eq_getElem (show j<xs.length by omega)]at h1;exact⟨n',_,h1⟩
theorem zDx {t:TypeId}{k:IntKind}(ht:P.underlying t=some (.int k)){u:Value}(h:∃n y,DataW.trod enc P W base sp held n t [u]=some y):∃z,u = .int k z∧(Lit.int k z).wf=true:=by
 obtain⟨n,y,h⟩:=h;obtain⟨z,h1,_,h3⟩:=DataW.trod_int ht h;exact⟨z,by simpa using h1,h3⟩
theorem zSW {t:TypeId}(ht:P.underlying t=some .string){u:Value}(h:∃n y,DataW.trod enc P W base sp held n t [u]=some y):∃z:ByteArray,u = .string z∧z.size≤maxLen:=by
 obtain⟨n,y,h⟩:=h;obtain⟨z,h1,_,h3⟩:=DataW.trod_string ht h;exact⟨z,by simpa using h1,h3⟩
theorem zWt {cs:List Value}(h:cs.length=2):∃a b,cs=[a,b]:=by match cs,h with|[a,b],_=>exact⟨a,b,rfl⟩
theorem zWs {cs:List Value}(h:cs.length=5):∃a b c d e,cs=[a,b,c,d,e]:=by match cs,h with|[a,b,c,d,e],_=>exact⟨a,b,c,d,e,rfl⟩
theorem zU9 {r:Reach}{b0:Nat}{t:TypeId}{fs:Array Field}{m:Nat}{v:Value}{d:DataW H}{ps:List MemPlace}(ht:P.underlying t=some (.struct fs))(hC:P.cellsOf t=m)(hone:oneCellFields P fs=true)(hm:fs.size=m)
 (hval:Value.okWide P W r b0 t v) (h:DataW.Trod enc P W base sp held t v d ps) :
 ∃cs:List Value,v = .agg cs.toArray∧cs.length=m∧∀(j:Nat) (f:Field) (u:Value),fs[j]? = some f→cs[j]? = some u→∃n' y,DataW.trod enc P W base sp held n' f.type [u]=some y:=by
 obtain⟨cs,rfl,hsz⟩:=okWide_struct ht hval;obtain⟨fuel,hf⟩:=h;refine⟨cs.toList,by simp,by simpa[hC]using hsz,zIt ht hone hf ?_⟩;simp only[Value.cells,Array.length_toList];rw[hm,← hC];exact hsz
end
theorem zOc {α:Type}{a b:List α}:∀x∈a,x∈a++b:=fun x h=>List.mem_append.2 (.inl h)
theorem zOb {α:Type}{a b:List α}:∀x∈b,x∈a++b:=fun x h=>List.mem_append.2 (.inr h)
end
section
variable {we w:World}{ρ:List (Nat × Obj)}{σ F:List HP}{p lim:Nat}{L:List Nd}
theorem zR4 {x:Int}(hS:St we ρ σ w):Cl Tryz.prog 260 [pI x] w fun v w'=>v = .bool false∧St we ρ σ w':=by
 refine Run.calls1 (n:=6) Tryz.func260 rfl rfl rfl ?_;repeat' first|apply Qs|apply Qr|(apply Rs<;>intro hc<;>try exact No)|apply Qn|refine Ql ?_
 refine Qw Tryz.func260 ?_;exact⟨rfl,hS⟩
theorem zR3 {x:Int}(hS:St we ρ σ w):Cl Tryz.prog 261 [.int .u64 x] w fun v w'=>v = .bool false∧St we ρ σ w':=by
 refine Run.calls1 (n:=6) Tryz.func261 rfl rfl rfl ?_;repeat' first|apply Qs|apply Qr|(apply Rs<;>intro hc<;>try exact No)|apply Qn|refine Ql ?_
 refine Qw Tryz.func261 ?_;exact⟨rfl,hS⟩
theorem zIy {x y:Int}(hS:St we ρ σ w):Cl Tryz.prog 229 [pI x,pI y] w fun v w'=>v = pI (sgn x y)∧St we ρ σ w':=by
 refine Run.calls2 (n:=20) Tryz.func229 rfl rfl rfl ?_;repeat' first|(apply RO.op;apply OP.callF;rfl;rfl;rfl;exact zR4 hS;clear hS;rintro v w1 ⟨rfl,hS⟩)|apply Qs|apply Qr|(apply Rs<;>intro hc<;>try exact No)|apply Qn|refine Ql ?_|refine Qt ?_|refine Qf ?_|apply Qk
 all_goals
  refine Qw Tryz.func229 ?_;refine⟨?_,hS⟩;simp only[tup,sgn];congr 1
  repeat(first|rw[if_pos (by assumption)]|rw[if_neg (by assumption)])
theorem zN5 {x y:Int}(hS:St we ρ σ w):Cl Tryz.prog 231 [.int .u64 x,.int .u64 y] w fun v w'=>v = pI (sgn x y)∧St we ρ σ w':=by
 refine Run.calls2 (n:=20) Tryz.func231 rfl rfl rfl ?_;repeat' first|(apply RO.op;apply OP.callF;rfl;rfl;rfl;exact zR3 hS;clear hS;rintro v w1 ⟨rfl,hS⟩)|apply Qs|apply Qr|(apply Rs<;>intro hc<;>try exact No)|apply Qn|refine Ql ?_|refine Qt ?_|refine Qf ?_|apply Qk
 all_goals
  refine Qw Tryz.func231 ?_;refine⟨?_,hS⟩;simp only[tup,sgn];congr 1
  repeat(first|rw[if_pos (by assumption)]|rw[if_neg (by assumption)])
theorem zWM {x y:Int}{b cap:Nat}{el:TypeId}{fr:Nat × Nat}(hS:St we ρ σ w)(hr:Rd ρ σ b (.cells [pI x,pI y].toArray el fr)) :
 Cl Tryz.prog 230 [.slice (some ⟨b,0,none⟩) 2 cap] w fun v w'=>v = pI (lx x y)∧St we ρ σ w':=by
 refine Run.calls1 (n:=18) Tryz.func230 rfl rfl rfl ?_;repeat' first|(refine RO.still (Still.load rfl rfl hr rfl) hS rfl ?_)|refine Run.loop ?_|refine Run.inLoop ?_|apply Qs|apply Qr|(apply Rs<;>intro hc<;>try exact No)|apply Qn|refine Ql ?_|refine Qt ?_|refine Qf ?_|apply Qk|apply Qb|apply Qi|refine Qe ?_
 all_goals
  refine Qw Tryz.func230 ?_;refine⟨?_,hS⟩;simp only[tup,lx];congr 1
  first|rw[if_pos (by assumption)]|(rw[if_neg (by assumption)];try omega)
end
def zCi:Value→Bool
 | .bool b=>b
 | _=>false
theorem zMa {k:Bool}{es:List MapEntry}(h:∀e∈es,e.key = .bool (zCi e.key)):KeyIs Tryz.prog 4 (.bool k) es (fun u=>k == zCi u):=KeyIs.bool rfl h
theorem zSr {k:Bool}{es:List MapEntry}(h:∀e∈es,e.key = .bool (zCi e.key)):∀e∈es,(k == zCi e.key)=true→Instr.sameBits 10000 e.key (.bool k)=true:=by
 intro e he h1;rw[h e he];simp only[Instr.sameBits];simp at h1 ⊢;exact h1.symm
section
variable {we w:World}{ρ:List (Nat × Obj)}{σ F:List HP}{p lim:Nat}{L:List Nd}
theorem zN6 (m:Nat):∀{F:List HP} {x y:Int} {w:World},1≤m→(has L x=true→x<m)→(has L y=true→y<m)→St we ρ (zAA p lim L::F) w →
 Cl Tryz.prog 179 [pP p,pI x,pI y] w fun v w'=>v = pI (cmp L x y)∧St we ρ (zAA p lim L::F) w':=by
 induction m with
 | zero=>intro F x y w h;omega
 | succ m ih =>
   intro F x y w _ hxm hym hS;refine Run.calls3 (n:=97) Tryz.func179 rfl rfl rfl ?_;obtain⟨g,hS⟩:=zA7 hS;have hw:=g.wf;repeat' first|(apply RO.op;apply OP.callF;rfl;rfl;rfl;exact zBl (xs:=[_]) hS.tk (by exact Rd.any) zNp len1;clear hS;rintro v w1 ⟨rfl,hS⟩;refine RO.splitB ?_ ?_<;>intro hb)|(apply RO.op;apply OP.callF;rfl;rfl;rfl;exact zBl (xs:=[_,_]) hS.tk (by exact Rd.any) zTq len2;clear hS;rintro v w1 ⟨rfl,hS⟩;refine RO.splitB ?_ ?_<;>intro hb)|(apply RO.op;apply OP.callF;rfl;rfl;rfl;exact zIy hS;clear hS;rintro v w1 ⟨rfl,hS⟩)|(apply RO.op;apply OP.insert hS;rfl;rfl;rfl;rfl;exact An;exact zMa (by simp[zCi]);exact zSr (by simp[zCi]);rfl;clear hS;intro w1 hS)|(refine Ql ?_ (h:=by apply Still.lookup;rfl;rfl;rfl;rfl;(exact Rd.any);exact zMa (by simp[zCi]);rfl;rfl))|apply Qs|apply Qr|(apply Rs<;>intro hc<;>try exact No)|apply Qn|refine Ql ?_|(refine Qg ?_;clear hS;intro b w1 hS)|(refine Qp ?_;clear hS;intro b w1 hS)|refine Qt ?_|refine Qf ?_|apply Qk
   all_goals first
    | (refine Qw Tryz.func179 ?_
       refine⟨?_,hS.tk.sublist (by(repeat(first|exact List.Sublist.refl _|refine .cons_cons _ ?_|refine .cons _ ?_)))⟩;rw[zUb hw];simp_all [tup,zFk,zBN,zCi];done)
    | skip
   have hx:has L x=true:=by simp_all
   have hy:has L y=true:=by simp_all
   have hx':=zAV.1 hx;have hy':=zAV.1 hy;obtain⟨r,m',cap,spare,g1,g2,g3,g4,hS⟩:=zCE hS;refine(Run.regionH_cut (fun z:Nat × Nat=>Row z.1 (ndL (nd L x)) 36::Row z.2 (ndL (nd L y)) 36::zHB p lim L r m' cap spare F)
    (fun z=>[(0,pP p),(1,pI x),(2,pI y),(7,pP z.1),(8,pP z.2)]) hS (List.Sublist.refl _) (by rfl) (by rfl) (by rfl) ?_ ?_)
   · clear hS
     intro w1 hS;repeat' first|(refine Yt 0 0 ?_)|(refine Yt 1 1 ?_)|(refine Yl 3 2 ?_)|(refine Yl 7 3 ?_)|(refine Yt 15 4 ?_)|(refine Yt 31 5 ?_ (h:=by first|exact Sx|exact Still.any))|(refine Yl 63 6 ?_)|(refine Yt 127 7 ?_)|(refine Yt 255 8 ?_)|(refine Yl 511 9 ?_)|(refine Yl 1023 10 ?_)|(refine Yt 2047 11 ?_)|(refine Yt 4095 12 ?_ (h:=by first|exact Sx|exact Still.any))|(refine Yl 8191 13 ?_)|(refine Zb 16383 14 15 ?_ ?_)|(refine Jo ?_)|(refine Za 32767 15 ?_)|(refine Za 65535 16 ?_)|(refine Za 131071 17 ?_)|(refine Yd 262143 ?_)|(refine Za 49151 14 ?_)|(refine RH.relist (listed':=bm 18 0) (by kernel_rfl) ?_)|(refine Oa ?_;clear hS;intro b w1 hS;refine Xh ?_)|(refine Od ?_;clear hS;intro w1 hS;refine Xh ?_)
     all_goals exact⟨(_,_),(by exact Sb),hS.pk⟩
   · clear hS
     rintro⟨b1,b2⟩ w1 hS;repeat(apply Qs)
     refine(Run.regionH_cut (fun z:Unit=>Row b1 (ndL (nd L x)) 36::Row b2 (ndL (nd L y)) 36::zHB p lim L r m' cap spare F)
      (fun z=>[(0,pP p),(1,pI x),(2,pI y),(7,pP b1),(8,pP b2),(9,pI (lx (sgn (nd L x).k (nd L y).k) (sgn (nd L x).n (nd L y).n)))]) hS (List.Sublist.refl _) (by rfl) (by rfl) (by rfl) ?_ ?_)
     · clear hS
       intro w1 hS;repeat' first|(refine Yl 0 0 ?_)|(refine Yl 1 1 ?_)|(refine Yl 3 2 ?_)|(refine Yl 7 3 ?_)|(refine Yl 15 5 ?_)|(refine Yl 47 6 ?_)|(refine Yl 111 7 ?_)|(refine Yl 239 8 ?_)|(refine Za 495 4 ?_)|(refine Jo ?_)|(refine Za 511 9 ?_)|(refine Za 1023 10 ?_)|(refine Za 2047 11 ?_)|(refine Yt 4095 12 ?_)|(refine Yd 8191 ?_)|(refine RH.relist (listed':=bm 13 0) (by kernel_rfl) ?_)|(apply OP.callF;rfl;rfl;rfl;exact zIy hS;clear hS;rintro v w1 ⟨rfl,hS⟩;refine Xh ?_)|(apply OP.callF;rfl;rfl;rfl;exact zN5 hS;clear hS;rintro v w1 ⟨rfl,hS⟩;refine Xh ?_)|(apply OP.callF;rfl;rfl;rfl;exact zWM hS (by exact Rd.any);clear hS;rintro v w1 ⟨rfl,hS⟩;refine Xh ?_)|(refine Og ?_;clear hS;intro b w1 hS;refine Xh ?_)
       all_goals exact⟨(),Sb,hS.pk⟩
     · clear hS
       rintro _ w1 hS;obtain hS:=zBp g1 g2 g3 g4 (hS.picks (σ':=zHB p lim L r m' cap spare (Row b1 (ndL (nd L x)) 36::Row b2 (ndL (nd L y)) 36::F)) (by focus((repeat(first|apply Picks.all|apply Picks.nil|(refine Picks.cons (by repeat(first|apply Take.head|apply Take.tail)) ?_)|apply Picks.drop));done)));have hxm':=hxm hx;have hym':=hym hy;have hm1:1≤m:=by omega
       have small:∀a:Int,has L a=true→a<((m+1:Nat):Int)→(nd L a).a<m∧(nd L a).b<m∧(nd L a).c<m:=fun a ha hm=>by
        have h0:=zAV.1 ha;by_cases z:a=0
        · subst z;rw[hw.zero];simp[Nd.z];omega
        · have h1:=hw.pa a (by omega) h0.2;have h2:=hw.pb a (by omega) h0.2;have h3:=hw.pc a (by omega) h0.2
          omega
       have bx:=small x hx hxm';have byy:=small y hy hym';clear small;repeat' first|(apply RO.op;apply OP.callF;rfl;rfl;rfl;exact ih hm1 (fun _=>by omega) (fun _=>by omega) hS;clear hS;rintro v w1 ⟨rfl,hS⟩)|refine Run.loop ?_|refine Run.inLoop ?_|apply Qs|apply Qr|(apply Rs<;>intro hc<;>try exact No)|apply Qn|refine Ql ?_|refine Qt ?_|refine Qf ?_|apply Qk|apply Qb|apply Qi|refine Qe ?_
       all_goals
        refine Qw Tryz.func179 ?_;refine⟨?_,hS.pk⟩;rw[zUb hw x y,if_neg (by assumption),if_pos ⟨hx,hy⟩,← zTe];simp only[tup];congr 1
        simp_all [lx]
end
def ndV (n:Nd):Value:=.agg (ndL n).toArray
theorem zDu {d:Nat}{t:TypeId}{q:IntKind}{x y:Int}{w:World}(ht:Tryz.prog.underlying t=some (.int q)):(Op.equalIn (d+1) t (.int q x) (.int q y)).run Tryz.prog w = .ok (x == y) w:=run_equalIn_int w d t q q x y ht
structure NodeT (T:TypeId):Prop where
 fields:∃f1 f2 f3 f4 f5:Field,(Tryz.prog.fieldsOf T).toList=[f1,f2,f3,f4,f5] ∧
  (f1.name ≠ "_" ∧ f1.type = 3 ∧ f1.offset = 0) ∧ (f2.name ≠ "_" ∧ f2.type = 34 ∧ f2.offset = 1) ∧ (f3.name ≠ "_" ∧ f3.type = 3 ∧ f3.offset = 2) ∧
  (f4.name ≠ "_" ∧ f4.type = 3 ∧ f4.offset = 3) ∧ (f5.name ≠ "_" ∧ f5.type = 3 ∧ f5.offset = 4)
 under:Tryz.prog.underlying T=some (.struct (Tryz.prog.fieldsOf T))
 stood:Tryz.prog.stoodInHeld T=false
 guard:Tryz.prog.eqGuardType Tryz.prog.depth T=false
theorem zVD:NodeT 36:=⟨⟨_,_,_,_,_,rfl,⟨by decide,rfl,rfl⟩,⟨by decide,rfl,rfl⟩,⟨by decide,rfl,rfl⟩,⟨by decide,rfl,rfl⟩,⟨by decide,rfl,rfl⟩⟩,rfl,by kernel_rfl,by kernel_rfl⟩
theorem zNQ:∃f1 f2 f3 f4 f5:Field,(Tryz.prog.fieldsOf 36).toList=[f1,f2,f3,f4,f5] ∧
 (f1.name ≠ "_" ∧ f1.type = 3 ∧ f1.offset = 0) ∧ (f2.name ≠ "_" ∧ f2.type = 34 ∧ f2.offset = 1) ∧ (f3.name ≠ "_" ∧ f3.type = 3 ∧ f3.offset = 2) ∧
 (f4.name ≠ "_" ∧ f4.type = 3 ∧ f4.offset = 3) ∧ (f5.name ≠ "_" ∧ f5.type = 3 ∧ f5.offset = 4) := zVD.fields
theorem zAv {xs:Array Value}{off:Nat}{v:Value}{w:World}(h:xs[off]? = some v):(part 3 xs off).run Tryz.prog w = .ok v w:=run_part_plain w (by rfl) h
theorem zOX {xs:Array Value}{off:Nat}{v:Value}{w:World}(h:xs[off]? = some v):(part 34 xs off).run Tryz.prog w = .ok v w:=run_part_plain w (by rfl) h
theorem zGH {T:TypeId}(hT:NodeT T){n m:Nd}{w:World}:(Op.equal T (ndV n) (ndV m)).run Tryz.prog w = .ok (decide (n=m)) w:=by
 have he:(Op.equal T (ndV n) (ndV m)).run Tryz.prog w=(Op.eqFields 9999 (ndL n).toArray (ndL m).toArray (Tryz.prog.fieldsOf T).toList).run Tryz.prog w:=run_equalIn_struct w 9999 T _ _ hT.under hT.stood;rw[he];obtain⟨f1,f2,f3,f4,f5,hf,⟨a1,a2,a3⟩,⟨b1,b2,b3⟩,⟨c1,c2,c3⟩,⟨d1,d2,d3⟩,⟨e1,e2,e3⟩⟩:=hT.fields;rw[hf];have pi:∀(d:Nat) (x y:Int),(Op.equalIn (9998+1) 3 (pI x) (pI y)).run Tryz.prog w = .ok (x == y) w:=fun d x y=>zDu rfl
 have pu:∀(x y:Int),(Op.equalIn (9998+1) 34 (.int .u64 x) (.int .u64 y)).run Tryz.prog w = .ok (x == y) w:=fun x y=>zDu rfl
 have h0:∀n:Nd,(part 3 (ndL n).toArray 0).run Tryz.prog w = .ok (pI n.k) w:=fun n=>zAv rfl
 have h1:∀n:Nd,(part 34 (ndL n).toArray 1).run Tryz.prog w = .ok (.int .u64 n.n) w:=fun n=>zOX rfl
 have h2:∀n:Nd,(part 3 (ndL n).toArray 2).run Tryz.prog w = .ok (pI n.a) w:=fun n=>zAv rfl
 have h3:∀n:Nd,(part 3 (ndL n).toArray 3).run Tryz.prog w = .ok (pI n.b) w:=fun n=>zAv rfl
 have h4:∀n:Nd,(part 3 (ndL n).toArray 4).run Tryz.prog w = .ok (pI n.c) w:=fun n=>zAv rfl
 simp only[Op.eqFields,a1,a2,a3,b1,b2,b3,c1,c2,c3,d1,d2,d3,e1,e2,e3,if_pos,ne_eq,not_false_eq_true,Sem.run_bind,h0,h1,h2,h3,h4,Result.andThen_ok,pi 0,pu,Sem.run_ite,Sem.run_pure];obtain⟨k,x,a,b,c⟩:=n;obtain⟨k',x',a',b',c'⟩:=m;simp only[Nd.mk.injEq];by_cases q1:k=k'<;>by_cases q2:x=x'<;>by_cases q3:a=a'<;>by_cases q4:b=b'<;>by_cases q5:c=c'<;>simp[q1,q2,q3,q4,q5]
theorem zPf {n m:Nd}{w:World}:(Op.equal 36 (ndV n) (ndV m)).run Tryz.prog w = .ok (decide (n=m)) w:=zGH zVD
theorem zPg {n:Nd}{b:Bool}{w:World}:(Instr.checkKey b 10000 36 (ndV n)).run Tryz.prog w = .ok () w:=by
 have hu:Tryz.prog.underlying 36=some (.struct (Tryz.prog.fieldsOf 36)):=rfl;have h0:∀n:Nd,(part 3 (ndL n).toArray 0).run Tryz.prog w = .ok (pI n.k) w:=fun n=>zAv rfl
 have h1:∀n:Nd,(part 34 (ndL n).toArray 1).run Tryz.prog w = .ok (.int .u64 n.n) w:=fun n=>zOX rfl
 have h2:∀n:Nd,(part 3 (ndL n).toArray 2).run Tryz.prog w = .ok (pI n.a) w:=fun n=>zAv rfl
 have h3:∀n:Nd,(part 3 (ndL n).toArray 3).run Tryz.prog w = .ok (pI n.b) w:=fun n=>zAv rfl
 have h4:∀n:Nd,(part 3 (ndL n).toArray 4).run Tryz.prog w = .ok (pI n.c) w:=fun n=>zAv rfl
 have ci:∀x:Int,(Instr.checkKey b (9998+1) 3 (pI x)).run Tryz.prog w = .ok () w:=fun x=>by
  rw[Instr.checkKey];simp only[Sem.run_bind,run_underlying (show Tryz.prog.underlying 3=some (.int .i64) from rfl),Result.andThen_ok];rfl
 have cu:∀x:Int,(Instr.checkKey b (9998+1) 34 (.int .u64 x)).run Tryz.prog w = .ok () w:=fun x=>by
  rw[Instr.checkKey];simp only[Sem.run_bind,run_underlying (show Tryz.prog.underlying 34=some (.int .u64) from rfl),Result.andThen_ok];rfl
 show(Instr.checkKey b (9999+1) 36 (ndV n)).run Tryz.prog w=_;rw[Instr.checkKey];simp only[ndV,Sem.run_bind,run_underlying hu,Result.andThen_ok];obtain⟨f1,f2,f3,f4,f5,hf,⟨a1,a2,a3⟩,⟨b1,b2,b3⟩,⟨c1,c2,c3⟩,⟨d1,d2,d3⟩,⟨e1,e2,e3⟩⟩:=zNQ;rw[← Array.forIn_toList,hf];simp only[List.forIn_cons,List.forIn_nil,a1,a2,a3,b1,b2,b3,c1,c2,c3,d1,d2,d3,e1,e2,e3,if_pos,ne_eq,not_false_eq_true,Sem.run_bind,h0,h1,h2,h3,h4,ci,cu,Result.andThen_ok,Sem.run_pure]
def ndOf:Value→Nd
 | .agg cs=>match cs.toList with
   | [.int _ k,.int _ n,.int _ a,.int _ b,.int _ c]=>⟨k,n,a,b,c⟩
   | _=>Nd.z
 | _=>Nd.z
theorem zTa (n:Nd):ndOf (ndV n)=n:=rfl
theorem zGG {n:Nd}{es:List MapEntry}(h:∀e∈es,e.key=ndV (ndOf e.key)):KeyIs Tryz.prog 36 (ndV n) es (fun u=>decide (n=ndOf u)):=by
 refine⟨fun w=>?_,fun b w=>zPg⟩;have h1:=zGa (P:=Tryz.prog) (kt:=36) (k:=ndV n) (w:=w) (eqv:=fun u=>decide (n=ndOf u)) es 0 (fun e he=>by
  have:=h e he;generalize ndOf e.key=m at this;rw[this,zPf])
 have hu:Tryz.prog.underlying 36=some (.struct (Tryz.prog.fieldsOf 36)):=rfl;simp only[Instr.findKey,Sem.run_bind,run_underlying hu,Result.andThen_ok];cases es with
 | nil=>rfl
 | cons e es =>
   have hn:Instr.findNow (.struct (Tryz.prog.fieldsOf 36)) (ndV n) (e::es) 0=none:=by simp[Instr.findNow,Instr.sameNow]
   rw[hn];exact h1
def zDW (L:List Nd):List MapEntry:=L.zipIdx.map fun(n,i)=>⟨ndV n,pI i,i⟩
theorem zDV {L:List Nd}:∀e∈zDW L,e.key=ndV (ndOf e.key):=by
 intro e he;obtain⟨⟨n,i⟩,_,rfl⟩:=List.mem_map.1 he;rfl
theorem zHb {n:Nd}:∀{L:List Nd} {i j:Nat},zBN (fun u=>decide (n=ndOf u)) ((L.zipIdx i).map fun(n,i)=>⟨ndV n,pI i,i⟩) j=(zFT L n i).map (fun r:Nat=>(j+(r - i),Value.int .i64 r))
 | [],_,_=>rfl
 | m::L,i,j=>by
   simp only[List.zipIdx_cons,List.map_cons,zBN,zFT];by_cases h:n=m
   · simp[h,zTa]
   · have hd:decide (n=ndOf (ndV m))=false:=decide_eq_false h
     simp only[hd,if_neg h,Bool.false_eq_true,if_false];rw[zHb (j:=j+1) (L:=L) (i:=i+1)];cases hq:zFT L n (i+1)with
     | none=>rfl
     | some r =>
       have:=(zFn hq).1;simp only[Option.map_some,Option.some.injEq,Prod.mk.injEq,and_true];omega
theorem zES {n:Nd}{L:List Nd}:zBN (fun u=>decide (n=ndOf u)) (zDW L) 0=(find L n).map (fun r:Nat=>(r,Value.int .i64 r)):=by
 have:=zHb (n:=n) (L:=L) (i:=0) (j:=0);simpa[zDW,find]using this
theorem zNy {n:Nd}{L:List Nd}(h:find L n=none):mput (fun u=>decide (n=ndOf u)) (ndV n) (pI L.length) (zDW L) L.length=(zDW (L++[n]),(L++[n]).length):=by
 simp only[mput,zES,h,Option.map_none];simp[zDW,List.zipIdx_append]
theorem zMO {n:Nd}{L:List Nd}:∀e∈zDW L,decide (n=ndOf e.key)=true→Instr.sameBits 10000 e.key (ndV n)=true:=by
 intro e he h;rw[zDV e he,of_decide_eq_true h];simp[ndV,ndL,Instr.sameBits]
section
variable {n:Nat}{e:Env}{ty t':TypeId}{x y:Operand}{S:World→Prop}{T:TypeId}{a b:Nd}
theorem Still.neqNd (hT:NodeT T)(hx:ev e x=some (ndV a))(hy:ev e y=some (ndV b)):Still Tryz.prog n e S (.binOp .neq T x y t') ty (.bool (decide (a≠b))) :=
 Still.bin hx hy (fun w=>run_eqGuard_agg w .neq T x y _ _ hT.guard) (fun w _=>by simp[binOp,ndV,show(Op.equal T (.agg (ndL a).toArray) (.agg (ndL b).toArray)).run Tryz.prog w=_ from zGH hT])
end
theorem zSK {L:List Nd}{n:Nd}:flat (L++[n])=flat L++ndL n:=by simp[flat]
end Go.Proofs.YtcikdogkkgefcaaGreatDoor
