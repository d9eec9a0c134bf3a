/- The plain words of the layer of recipes: a step, what it makes; a recipe. A step in the program's words and in the document's: the same. -/
import Derived.Test.YtcikdogkkgefcaaGreatDoorMA07
import Derived.Test.YtcikdogkkgefcaaGreatDoorMA06
namespace Go.Proofs.YtcikdogkkgefcaaGreatDoor
set_option maxRecDepth 8000
set_option maxHeartbeats 16000000
set_option linter.unusedVariables false
set_option linter.unusedSimpArgs false
open Go Go.RowKit
structure Stp where
 op:Int
 n:Int
 a:Int
 b:Int
 c:Int
def stpL (s:Stp):List Value:=[pI s.op,.int .u64 s.n,pI s.a,pI s.b,pI s.c]
def uses (op:Int):Nat:=if op=2∨op=10∨op=11 then 1 else if op=3∨op=5∨op=6∨op=8∨op=12 then 2 else if op=7 then 3 else 0
def ahd (made:List Int)(x:Int):Bool:=decide (0≤x∧x<made.length)
def mde (made:List Int)(x:Int):Int:=made.getD x.toNat 0
def zAn (s:Stp)(u:Nat)(made:List Int):Bool :=
 (if u=0 then decide (s.a=0) else ahd made s.a) && (if u≤1 then decide (s.b=0) else ahd made s.b) && (if u≤2 then decide (s.c=0) else ahd made s.c)
def zEb (L:List Nd)(made:List Int)(s:Stp):Int × Int :=
 if s.op=12 then(if(nd L (mde made s.a)).k=7∧(nd L (mde made s.a)).a=mde made s.b then((nd L (mde made s.a)).c,0) else(0,12))
 else if(nd L (mde made s.a)).k=8 then(if s.op=10 then(nd L (mde made s.a)).a else(nd L (mde made s.a)).b,0) else(0,12)
def oneS (lim:Nat)(L:List Nd)(heard made:List Int)(s:Stp):List Nd × Int × Int :=
 if s.op=0 then(if s.n=0∧s.b=0∧s.c=0∧0≤s.a∧s.a<heard.length then(L,mde heard s.a,0) else(L,0,12))
 else if s.op=1 then(if s.n<1048576∧zAn s 0 made=true then mk lim L ⟨1,4294967296+s.n,0,0,0⟩ else(L,0,12))
 else if s.op=2 then(if s.n=0∧zAn s 1 made=true then mk lim L ⟨2,0,mde made s.a,0,0⟩ else(L,0,12))
 else if s.op=3 then(if s.n=0∧zAn s 2 made=true then share lim L (mde made s.a) (mde made s.b) else(L,0,12))
 else if s.op=5∨s.op=8 then(if s.n=0∧zAn s 2 made=true then mk lim L ⟨s.op,0,mde made s.a,mde made s.b,0⟩ else(L,0,12))
 else if s.op=6 then(if 1≤s.n∧s.n≤4∧zAn s 2 made=true then mk lim L ⟨6,s.n,mde made s.a,mde made s.b,0⟩ else(L,0,12))
 else if s.op=7 then(if zAn s 3 made=true then mk lim L ⟨7,s.n,mde made s.a,mde made s.b,mde made s.c⟩ else(L,0,12))
 else if s.op=9 then(if zAn s 0 made=true then mk lim L ⟨9,s.n,0,0,0⟩ else(L,0,12))
 else if s.op=10∨s.op=11 then(if s.n=0∧zAn s 1 made=true then(L,zEb L made s) else(L,0,12))
 else if s.op=12 then(if s.n=0∧zAn s 2 made=true then(L,zEb L made s) else(L,0,12))
 else if s.op=13 then(if s.n=0∧zAn s 0 made=true then(L,0,0) else(L,0,12))
 else(L,0,12)
def runS (lim:Nat)(heard:List Int):List Stp→List Nd→List Int→Nat→List Nd × List Int × Nat × Int
 | [],L,made,_=>(L,made,0,0)
 | s::l,L,made,at_=>if(oneS lim L heard made s).2.2≠0 then(L,[],at_,(oneS lim L heard made s).2.2) else runS lim heard l (oneS lim L heard made s).1 (made++[(oneS lim L heard made s).2.1]) (at_+1)
theorem zFy {made:List Int}{x:Int}:ahd made x=true↔0≤x∧x<made.length:=by simp[ahd]
theorem zIX {made:List Int}{x:Int}(h:ahd made x=true):∃h2:x.toNat<made.length,mde made x=made[x.toNat]:=by
 rw[zFy]at h;have h2:x.toNat<made.length:=by omega
 exact⟨h2,by simp[mde,List.getD,List.getElem?_eq_getElem h2]⟩
def zBd (L:List Nd)(l:List Int):Prop:=∀x∈l,has L x=true
theorem zD0 {L:List Nd}{made:List Int}(h:zBd L made){x:Int}(hx:ahd made x=true):has L (mde made x)=true:=by
 obtain⟨h2,e⟩:=zIX hx;rw[e];exact h _ (List.getElem_mem h2)
theorem zKG {L M:List Nd}{l:List Int}(h:zBd L l):zBd (L++M) l:=fun x hx=>zBo (h x hx)
theorem has0 {lim:Nat}{L:List Nd}(g:Good lim L):has L 0=true:=by rw[zAV];have:=g.wf.pos;omega
theorem zGL {lim:Nat}{L:List Nd}{n:Nd}(h:(mk lim L n).2.2=0):has (mk lim L n).1 (mk lim L n).2.1=true:=(zKm h).1
theorem zPI {lim:Nat}{L:List Nd}(g:Good lim L)(x y:Int):Good lim (share lim L x y).1:=by
 unfold share;split
 · split
   · exact zDd g _
   · split
     · exact zDd g _
     · exact zDd g _
 · exact g
theorem zLZ (lim:Nat)(L:List Nd)(x y:Int):∃M,(share lim L x y).1=L++M:=by
 unfold share;split
 · split
   · exact zDs _ _ _
   · split
     · exact zDs _ _ _
     · exact zDs _ _ _
 · exact⟨[],by simp⟩
theorem zLa {lim:Nat}{L:List Nd}{x y:Int}(h:(share lim L x y).2.2=0):has (share lim L x y).1 (share lim L x y).2.1=true:=by
 unfold share at h ⊢;split at h
 · rename_i hh
   rw[if_pos hh];split at h
   · rename_i h1;rw[if_pos h1];exact zGL h
   · rename_i h1
     rw[if_neg h1];split at h
     · rename_i h2;rw[if_pos h2];exact zGL h
     · rename_i h2;rw[if_neg h2];exact zGL h
 · cases h
structure OneOk (lim:Nat)(L:List Nd)(q:List Nd × Int × Int):Prop where
 good:Good lim q.1
 ext:∃M,q.1=L++M
 made:q.2.2=0→has q.1 q.2.1=true
theorem zE7 {lim:Nat}{L:List Nd}(g:Good lim L)(n:Nd):OneOk lim L (mk lim L n):=⟨zDd g n,zDs _ _ _,zGL⟩
theorem zTU {lim:Nat}{L:List Nd}(g:Good lim L){e:Int}(he:e≠0):OneOk lim L (L,0,e):=⟨g,⟨[],by simp⟩,fun h=>absurd h he⟩
theorem zHj {lim:Nat}{L:List Nd}(g:Good lim L){x e:Int}(hx:e=0→has L x=true):OneOk lim L (L,x,e):=⟨g,⟨[],by simp⟩,hx⟩
theorem zLS {lim:Nat}{L:List Nd}(g:Good lim L){made:List Int}(h:zBd L made){s:Stp}(ha:ahd made s.a=true)(he:(zEb L made s).2=0):has L (zEb L made s).1=true:=by
 have hx:=zD0 h ha;have hp:∀k,0<k→(nd L (mde made s.a)).k=k→has L (nd L (mde made s.a)).a=true∧has L (nd L (mde made s.a)).b=true∧has L (nd L (mde made s.a)).c=true:=fun k h0 hk=>by
  rcases zCG g hx with q|⟨p1,p2,p3,_⟩
  · omega
  · exact⟨p1,p2,p3⟩
 unfold zEb at he ⊢;split
 · rename_i h12
   rw[if_pos h12]at he;split
   · rename_i h7;exact(hp 7 (by omega) h7.1).2.2
   · rename_i h7;rw[if_neg h7]at he;cases he
 · rename_i h12
   rw[if_neg h12]at he;split
   · rename_i h8
     have:=hp 8 (by omega) h8;simp only;split
     · exact this.1
     · exact this.2.1
   · rename_i h8;rw[if_neg h8]at he;cases he
theorem zCr {s:Stp}{u:Nat}{made:List Int}(h:zAn s u made=true)(hu:0<u):ahd made s.a=true:=by
 unfold zAn at h;simp only[Bool.and_eq_true]at h;rw[if_neg (by omega)]at h;exact h.1.1
theorem zFx {s:Stp}{u:Nat}{made:List Int}(h:zAn s u made=true)(hu:1<u):ahd made s.b=true:=by
 unfold zAn at h;simp only[Bool.and_eq_true]at h;rw[if_neg (by omega:¬u≤1)]at h;exact h.1.2
theorem zOG {s:Stp}{u:Nat}{made:List Int}(h:zAn s u made=true)(hu:2<u):ahd made s.c=true:=by
 unfold zAn at h;simp only[Bool.and_eq_true]at h;rw[if_neg (by omega:¬u≤2)]at h;exact h.2
theorem zUR {lim:Nat}{L:List Nd}(g:Good lim L){heard made:List Int}(h1:zBd L heard)(h2:zBd L made)(s:Stp):OneOk lim L (oneS lim L heard made s):=by
 unfold oneS;have hno:OneOk lim L (L,0,(12:Int)):=zTU g (by omega);by_cases c0:s.op=0
 · rw[if_pos c0]
   split
   · rename_i hc
     exact zHj g (fun _=>zD0 h1 (zFy.2 ⟨hc.2.2.2.1,hc.2.2.2.2⟩))
   · exact hno
 rw[if_neg c0];by_cases c1:s.op=1
 · rw[if_pos c1]
   split
   · exact zE7 g _
   · exact hno
 rw[if_neg c1];by_cases c2:s.op=2
 · rw[if_pos c2]
   split
   · exact zE7 g _
   · exact hno
 rw[if_neg c2];by_cases c3:s.op=3
 · rw[if_pos c3]
   split
   · exact⟨zPI g _ _,zLZ _ _ _ _,zLa⟩
   · exact hno
 rw[if_neg c3];by_cases c5:s.op=5∨s.op=8
 · rw[if_pos c5]
   split
   · exact zE7 g _
   · exact hno
 rw[if_neg c5];by_cases c6:s.op=6
 · rw[if_pos c6]
   split
   · exact zE7 g _
   · exact hno
 rw[if_neg c6];by_cases c7:s.op=7
 · rw[if_pos c7]
   split
   · exact zE7 g _
   · exact hno
 rw[if_neg c7];by_cases c9:s.op=9
 · rw[if_pos c9]
   split
   · exact zE7 g _
   · exact hno
 rw[if_neg c9];by_cases c10:s.op=10∨s.op=11
 · rw[if_pos c10]
   split
   · rename_i hc
     exact zHj g (fun he=>zLS g h2 (zCr hc.2 (by omega)) he)
   · exact hno
 rw[if_neg c10];by_cases c12:s.op=12
 · rw[if_pos c12]
   split
   · rename_i hc
     exact zHj g (fun he=>zLS g h2 (zCr hc.2 (by omega)) he)
   · exact hno
 rw[if_neg c12];by_cases c13:s.op=13
 · rw[if_pos c13]
   split
   · exact zHj g (fun _=>has0 g)
   · exact hno
 rw[if_neg c13];exact hno
theorem zCw {lim:Nat}{L:List Nd}{n:Nd}(h:(mk lim L n).2.2≠0):(mk lim L n).1=L:=by
 rcases zUS lim L n with q|⟨_,q,_⟩
 · exact absurd q h
 · exact q
theorem zMx {lim:Nat}{L:List Nd}{x y:Int}(h:(share lim L x y).2.2≠0):(share lim L x y).1=L:=by
 unfold share at h ⊢;by_cases h1:has L x=true∧has L y=true
 · rw[if_pos h1]at h ⊢
   by_cases h2:(nd L y).k≠2
   · rw[if_pos h2]at h ⊢;exact zCw h
   · rw[if_neg h2]at h ⊢
     by_cases h3:cmp L x (nd L y).a>0
     · rw[if_pos h3]at h ⊢;exact zCw h
     · rw[if_neg h3]at h ⊢;exact zCw h
 · rw[if_neg h1]
theorem zTW {lim:Nat}{L:List Nd}{heard made:List Int}{s:Stp}(h:(oneS lim L heard made s).2.2≠0):(oneS lim L heard made s).1=L:=by
 unfold oneS at h ⊢;by_cases c0:s.op=0
 · rw[if_pos c0]at h ⊢
   split<;>rfl
 rw[if_neg c0]at h ⊢;by_cases c1:s.op=1
 · rw[if_pos c1]at h ⊢
   by_cases hc:s.n<1048576∧zAn s 0 made=true
   · rw[if_pos hc]at h ⊢;exact zCw h
   · rw[if_neg hc]
 rw[if_neg c1]at h ⊢;by_cases c2:s.op=2
 · rw[if_pos c2]at h ⊢
   by_cases hc:s.n=0∧zAn s 1 made=true
   · rw[if_pos hc]at h ⊢;exact zCw h
   · rw[if_neg hc]
 rw[if_neg c2]at h ⊢;by_cases c3:s.op=3
 · rw[if_pos c3]at h ⊢
   by_cases hc:s.n=0∧zAn s 2 made=true
   · rw[if_pos hc]at h ⊢;exact zMx h
   · rw[if_neg hc]
 rw[if_neg c3]at h ⊢;by_cases c5:s.op=5∨s.op=8
 · rw[if_pos c5]at h ⊢
   by_cases hc:s.n=0∧zAn s 2 made=true
   · rw[if_pos hc]at h ⊢;exact zCw h
   · rw[if_neg hc]
 rw[if_neg c5]at h ⊢;by_cases c6:s.op=6
 · rw[if_pos c6]at h ⊢
   by_cases hc:1≤s.n∧s.n≤4∧zAn s 2 made=true
   · rw[if_pos hc]at h ⊢;exact zCw h
   · rw[if_neg hc]
 rw[if_neg c6]at h ⊢;by_cases c7:s.op=7
 · rw[if_pos c7]at h ⊢
   by_cases hc:zAn s 3 made=true
   · rw[if_pos hc]at h ⊢;exact zCw h
   · rw[if_neg hc]
 rw[if_neg c7]at h ⊢;by_cases c9:s.op=9
 · rw[if_pos c9]at h ⊢
   by_cases hc:zAn s 0 made=true
   · rw[if_pos hc]at h ⊢;exact zCw h
   · rw[if_neg hc]
 rw[if_neg c9]at h ⊢;by_cases c10:s.op=10∨s.op=11
 · rw[if_pos c10];split<;>rfl
 rw[if_neg c10];by_cases c12:s.op=12
 · rw[if_pos c12];split<;>rfl
 rw[if_neg c12];by_cases c13:s.op=13
 · rw[if_pos c13];split<;>rfl
 rw[if_neg c13]
def zUP:List Value:=[pI 0,pI 0,pI 1,pI 2,pI 0,pI 2,pI 2,pI 3,pI 2,pI 0,pI 1,pI 1,pI 2,pI 0]
def zAf (s:Stp):Prop :=
 (0≤s.op∧s.op≤13∧s.op≠4)∧(¬s.op=1∨s.n<1048576)∧((s.op=1∨s.op=6∨s.op=7∨s.op=9)∨s.n=0)∧((s.op=0∨s.op=2∨s.op=3∨s.op=5∨s.op=6∨s.op=7∨s.op=8∨s.op=10∨s.op=11∨s.op=12)∨s.a=0) ∧
 ((s.op=3∨s.op=5∨s.op=6∨s.op=7∨s.op=8∨s.op=12)∨s.b=0)∧(s.op=7∨s.c=0)
instance (s:Stp):Decidable (zAf s):=by unfold zAf;infer_instance
def zOM (L:List Nd)(op x y:Int):Int × Int :=
 if op=12 then(if(nd L x).k=7∧(nd L x).a=y then((nd L x).c,0) else(0,12))
 else if(nd L x).k=8 then(if op=10 then(nd L x).a else(nd L x).b,0) else(0,12)
def fixE (q:List Nd × Int × Int):List Nd × Int × Int:=if q.2.2=1 then(q.1,0,12) else q
def zAp (s:Stp):List Int:=[s.a,s.b,s.c].take (uses s.op)
theorem zHz (op:Int):uses op≤3:=by
 unfold uses;split
 · omega
 · split
   · omega
   · split<;>omega
theorem zI4 (s:Stp):(zAp s).length=uses s.op:=by
 unfold zAp;rw[List.length_take];have:=zHz s.op;simp only[List.length_cons,List.length_nil];omega
theorem zLt {op:Int}(h:0≤op∧op≤13):zUP[op.toNat]? = some (pI (uses op)):=by
 have hcs:op=0∨op=1∨op=2∨op=3∨op=4∨op=5∨op=6∨op=7∨op=8∨op=9∨op=10∨op=11∨op=12∨op=13:=by omega
 rcases hcs with rfl|rfl|rfl|rfl|rfl|rfl|rfl|rfl|rfl|rfl|rfl|rfl|rfl|rfl<;>rfl
section
variable {lim:Nat}{L:List Nd}{heard made:List Int}{s:Stp}
theorem zBv {u:Nat}(h:zAn s u made=true):(u=0→s.a=0)∧(u≤1→s.b=0)∧(u≤2→s.c=0):=by
 unfold zAn at h;simp only[Bool.and_eq_true]at h;refine⟨fun hu=>?_,fun hu=>?_,fun hu=>?_⟩
 · have:=h.1.1;rw[if_pos hu]at this;simpa using this
 · have:=h.1.2;rw[if_pos hu]at this;simpa using this
 · have:=h.2;rw[if_pos hu]at this;simpa using this
theorem zRW (h:¬zAf s):oneS lim L heard made s=(L,0,12):=by
 unfold oneS;by_cases c0:s.op=0
 · rw[if_pos c0,if_neg (fun hc=>h (by simp[zAf,c0,hc.1,hc.2.1,hc.2.2.1]))]
 rw[if_neg c0];by_cases c1:s.op=1
 · rw[if_pos c1,if_neg (fun hc=>h (by
    obtain⟨z1,z2,z3⟩:=zBv hc.2;simp[zAf,c1,hc.1,z1 rfl,z2 (by omega),z3 (by omega)]))]
 rw[if_neg c1];by_cases c2:s.op=2
 · rw[if_pos c2,if_neg (fun hc=>h (by
    obtain⟨z1,z2,z3⟩:=zBv hc.2;simp[zAf,c2,hc.1,z2 (by omega),z3 (by omega)]))]
 rw[if_neg c2];by_cases c3:s.op=3
 · rw[if_pos c3,if_neg (fun hc=>h (by
    obtain⟨z1,z2,z3⟩:=zBv hc.2;simp[zAf,c3,hc.1,z3 (by omega)]))]
 rw[if_neg c3];by_cases c5:s.op=5∨s.op=8
 · rw[if_pos c5,if_neg (fun hc=>h (by
    obtain⟨z1,z2,z3⟩:=zBv hc.2;rcases c5 with c5|c5<;>simp[zAf,c5,hc.1,z3 (by omega)]))]
 rw[if_neg c5];by_cases c6:s.op=6
 · rw[if_pos c6,if_neg (fun hc=>h (by
    obtain⟨z1,z2,z3⟩:=zBv hc.2.2;simp[zAf,c6,z3 (by omega)]))]
 rw[if_neg c6];by_cases c7:s.op=7
 · exact absurd (by simp[zAf,c7]) h
 rw[if_neg c7];by_cases c9:s.op=9
 · rw[if_pos c9,if_neg (fun hc=>h (by
    obtain⟨z1,z2,z3⟩:=zBv hc;simp[zAf,c9,z1 rfl,z2 (by omega),z3 (by omega)]))]
 rw[if_neg c9];by_cases c10:s.op=10∨s.op=11
 · rw[if_pos c10,if_neg (fun hc=>h (by
    obtain⟨z1,z2,z3⟩:=zBv hc.2;rcases c10 with c10|c10<;>simp[zAf,c10,hc.1,z2 (by omega),z3 (by omega)]))]
 rw[if_neg c10];by_cases c12:s.op=12
 · rw[if_pos c12,if_neg (fun hc=>h (by
    obtain⟨z1,z2,z3⟩:=zBv hc.2;simp[zAf,c12,hc.1,z3 (by omega)]))]
 rw[if_neg c12];by_cases c13:s.op=13
 · rw[if_pos c13,if_neg (fun hc=>h (by
    obtain⟨z1,z2,z3⟩:=zBv hc.2;simp[zAf,c13,hc.1,z1 rfl,z2 (by omega),z3 (by omega)]))]
 rw[if_neg c13]
theorem zSw {u:Nat}(hu:u=uses s.op)(h:zAn s u made=true):(zAp s).all (ahd made)=true:=by
 subst hu;unfold zAp;have h3:=zHz s.op;have ha:=fun q=>zCr (made:=made) h q
 have hb:=fun q=>zFx (made:=made) h q
 have hc:=fun q=>zOG (made:=made) h q
 match hu:uses s.op,h3 with
 | 0,_=>rfl
 | 1,_=>simp[ha (by omega)]
 | 2,_=>simp[ha (by omega),hb (by omega)]
 | 3,_=>simp[ha (by omega),hb (by omega),hc (by omega)]
theorem zTV (hu:(zAp s).all (ahd made)=false):oneS lim L heard made s=(L,0,12):=by
 have hno:∀u,u=uses s.op→¬zAn s u made=true:=fun u h1 h2=>by rw[zSw h1 h2]at hu;cases hu
 unfold oneS;by_cases c0:s.op=0
 · simp[zAp,uses,c0]at hu
 rw[if_neg c0];by_cases c1:s.op=1
 · simp[zAp,uses,c1]at hu
 rw[if_neg c1];by_cases c2:s.op=2
 · rw[if_pos c2,if_neg (fun hc=>hno _ (by simp[uses,c2]) hc.2)]
 rw[if_neg c2];by_cases c3:s.op=3
 · rw[if_pos c3,if_neg (fun hc=>hno _ (by simp[uses,c3]) hc.2)]
 rw[if_neg c3];by_cases c5:s.op=5∨s.op=8
 · rw[if_pos c5,if_neg (fun hc=>hno _ (by rcases c5 with c5|c5<;>simp[uses,c5]) hc.2)]
 rw[if_neg c5];by_cases c6:s.op=6
 · rw[if_pos c6,if_neg (fun hc=>hno _ (by simp[uses,c6]) hc.2.2)]
 rw[if_neg c6];by_cases c7:s.op=7
 · rw[if_pos c7,if_neg (fun hc=>hno _ (by simp[uses,c7]) hc)]
 rw[if_neg c7];by_cases c9:s.op=9
 · simp[zAp,uses,c9]at hu
 rw[if_neg c9];by_cases c10:s.op=10∨s.op=11
 · rw[if_pos c10,if_neg (fun hc=>hno _ (by rcases c10 with c10|c10<;>simp[uses,c10]) hc.2)]
 rw[if_neg c10];by_cases c12:s.op=12
 · rw[if_pos c12,if_neg (fun hc=>hno _ (by simp[uses,c12]) hc.2)]
 rw[if_neg c12];by_cases c13:s.op=13
 · simp[zAp,uses,c13]at hu
 rw[if_neg c13]
theorem zE2 (hr:zAf s)(hop:s.op≠0)(hu:(zAp s).all (ahd made)=true):zAn s (uses s.op) made=true:=by
 obtain⟨op,n,a,b,c⟩:=s;simp only at hop;obtain⟨h1,h2,h3,h4,h5,h6⟩:=hr;simp only at h1;have hcs:op=1∨op=2∨op=3∨op=5∨op=6∨op=7∨op=8∨op=9∨op=10∨op=11∨op=12∨op=13:=by omega
 rcases hcs with rfl|rfl|rfl|rfl|rfl|rfl|rfl|rfl|rfl|rfl|rfl|rfl
 all_goals
  simp[zAp,uses]at hu h2 h3 h4 h5 h6;simp[zAn,uses,hu,h2,h3,h4,h5,h6]
def padS (s:Stp)(made:List Int)(j:Nat):Int:=((zAp s).map (mde made)++[0,0,0]).getD j 0
theorem zC0 {k n x y z:Int}(hk:k≠3∧0≤k∧k≤9)(hn:zBW ⟨k,n,x,y,z⟩=true)(hx:if 0<many k then has L x=true else x=0)(hy:if 1<many k then has L y=true else y=0)(hz:if 2<many k then has L z=true else z=0)(h4:k≠4):right L ⟨k,n,x,y,z⟩=true:=by
 unfold right;simp only[hn];have p:∀(j m:Int) (v:Int),(if j<m then has L v=true else v=0)→zBy L m j v=true:=fun j m v h=>by
  unfold zBy;split
  · rename_i q;rw[if_pos q]at h;exact h
  · rename_i q;rw[if_neg q]at h;simpa using h
 have q0:=p 0 (many k) x hx;have q1:=p 1 (many k) y hy;have q2:=p 2 (many k) z hz;simp[hk.1,hk.2.1,hk.2.2,h4,q0,q1,q2]
theorem zC2 {n:Nd}(h:right L n=true):fixE (mk lim L n)=mk lim L n:=by
 unfold mk;rw[if_pos h];cases hf:find L n with
 | some i=>rfl
 | none =>
   simp only;by_cases hl:lim≤L.length
   · rw[if_pos hl];rfl
   · rw[if_neg hl];rfl
theorem zQB {n:Nd}(h:right L n=false):fixE (mk lim L n)=(L,0,12):=by
 unfold mk;rw[if_neg (by rw[h];simp)];rfl
theorem zRZ (g:Good lim L)(hr:zAf s)(hop:s.op=2∨s.op=5∨s.op=6∨s.op=7∨s.op=8∨s.op=9)(hu:(zAp s).all (ahd made)=true)(hm:zBd L made) :
 oneS lim L heard made s=fixE (mk lim L ⟨s.op,s.n,padS s made 0,padS s made 1,padS s made 2⟩):=by
 have hah:=zE2 hr (by omega) hu;have hA:=fun q=>zD0 hm (zCr (made:=made) hah q)
 have hB:=fun q=>zD0 hm (zFx (made:=made) hah q)
 have hC:=fun q=>zD0 hm (zOG (made:=made) hah q)
 obtain⟨op,n,a,b,c⟩:=s;obtain⟨-,-,h3,-,-,-⟩:=hr;simp only at hop h3 hA hB hC;rcases hop with rfl|rfl|rfl|rfl|rfl|rfl
 · simp[uses]at hA h3
   subst h3;have hah':zAn ⟨2,0,a,b,c⟩ 1 made=true:=hah;have e0:padS ⟨2,0,a,b,c⟩ made 0=mde made a:=by simp[padS,zAp,uses]
   have e1:padS ⟨2,0,a,b,c⟩ made 1=0:=by simp[padS,zAp,uses]
   have e2:padS ⟨2,0,a,b,c⟩ made 2=0:=by simp[padS,zAp,uses]
   simp only[e0,e1,e2];rw[zC2 (zC0 (k:=2) (n:=0) (x:=mde made a) (y:=0) (z:=0) (by omega) rfl (by simpa[many]using hA) (by simp[many]) (by simp[many]) (by omega))];simp[oneS,hah']
 · simp[uses]at hA hB h3
   subst h3;have hah':zAn ⟨5,0,a,b,c⟩ 2 made=true:=hah;have e0:padS ⟨5,0,a,b,c⟩ made 0=mde made a:=by simp[padS,zAp,uses]
   have e1:padS ⟨5,0,a,b,c⟩ made 1=mde made b:=by simp[padS,zAp,uses]
   have e2:padS ⟨5,0,a,b,c⟩ made 2=0:=by simp[padS,zAp,uses]
   simp only[e0,e1,e2];rw[zC2 (zC0 (k:=5) (n:=0) (x:=mde made a) (y:=mde made b) (z:=0) (by omega) rfl (by simpa[many]using hA) (by simpa[many]using hB) (by simp[many]) (by omega))];simp[oneS,hah']
 · simp[uses]at hA hB
   have hah':zAn ⟨6,n,a,b,c⟩ 2 made=true:=hah;have e0:padS ⟨6,n,a,b,c⟩ made 0=mde made a:=by simp[padS,zAp,uses]
   have e1:padS ⟨6,n,a,b,c⟩ made 1=mde made b:=by simp[padS,zAp,uses]
   have e2:padS ⟨6,n,a,b,c⟩ made 2=0:=by simp[padS,zAp,uses]
   simp only[e0,e1,e2];by_cases hn:1≤n∧n≤4
   · rw[zC2 (zC0 (k:=6) (n:=n) (x:=mde made a) (y:=mde made b) (z:=0) (by omega) (by simp[zBW,hn]) (by simpa[many]using hA) (by simpa[many]using hB) (by simp[many]) (by omega))]
     simp[oneS,hah',hn]
   · have hnum:zBW ⟨6,n,mde made a,mde made b,0⟩=false:=by
      simp[zBW];omega
     rw[zQB (by unfold right;rw[hnum];simp)];have hq:¬(1≤n∧n≤4∧zAn ⟨6,n,a,b,c⟩ 2 made=true):=fun h=>hn ⟨h.1,h.2.1⟩
     unfold oneS;rw[if_neg (by simp),if_neg (by simp),if_neg (by simp),if_neg (by simp),if_neg (by simp),if_pos rfl,if_neg hq]
 · simp[uses]at hA hB hC
   have hah':zAn ⟨7,n,a,b,c⟩ 3 made=true:=hah;have e0:padS ⟨7,n,a,b,c⟩ made 0=mde made a:=by simp[padS,zAp,uses]
   have e1:padS ⟨7,n,a,b,c⟩ made 1=mde made b:=by simp[padS,zAp,uses]
   have e2:padS ⟨7,n,a,b,c⟩ made 2=mde made c:=by simp[padS,zAp,uses]
   simp only[e0,e1,e2];rw[zC2 (zC0 (k:=7) (n:=n) (x:=mde made a) (y:=mde made b) (z:=mde made c) (by omega) (by simp[zBW]) (by simpa[many]using hA) (by simpa[many]using hB) (by simpa[many]using hC) (by omega))];simp[oneS,hah']
 · simp[uses]at hA hB h3
   subst h3;have hah':zAn ⟨8,0,a,b,c⟩ 2 made=true:=hah;have e0:padS ⟨8,0,a,b,c⟩ made 0=mde made a:=by simp[padS,zAp,uses]
   have e1:padS ⟨8,0,a,b,c⟩ made 1=mde made b:=by simp[padS,zAp,uses]
   have e2:padS ⟨8,0,a,b,c⟩ made 2=0:=by simp[padS,zAp,uses]
   simp only[e0,e1,e2];rw[zC2 (zC0 (k:=8) (n:=0) (x:=mde made a) (y:=mde made b) (z:=0) (by omega) rfl (by simpa[many]using hA) (by simpa[many]using hB) (by simp[many]) (by omega))];simp[oneS,hah']
 · have hah':zAn ⟨9,n,a,b,c⟩ 0 made=true:=hah
   have e0:padS ⟨9,n,a,b,c⟩ made 0=0:=by simp[padS,zAp,uses]
   have e1:padS ⟨9,n,a,b,c⟩ made 1=0:=by simp[padS,zAp,uses]
   have e2:padS ⟨9,n,a,b,c⟩ made 2=0:=by simp[padS,zAp,uses]
   simp only[e0,e1,e2];rw[zC2 (zC0 (k:=9) (n:=n) (x:=0) (y:=0) (z:=0) (by omega) (by simp[zBW]) (by simp[many]) (by simp[many]) (by simp[many]) (by omega))];simp[oneS,hah']
theorem zKk (hr:zAf s)(hop:s.op=0)(ha:0≤s.a∧s.a<heard.length):oneS lim L heard made s=(L,mde heard s.a,0):=by
 obtain⟨op,n,a,b,c⟩:=s;simp only at hop ha;subst hop;simp[zAf]at hr;unfold oneS;rw[if_pos rfl,if_pos ⟨hr.1,hr.2.1,hr.2.2,ha⟩]
theorem zHO (hop:s.op=0)(ha:¬(0≤s.a∧s.a<heard.length)):oneS lim L heard made s=(L,0,12):=by
 unfold oneS;rw[if_pos hop,if_neg (fun h=>ha h.2.2.2)]
theorem zTZ (hr:zAf s)(hop:s.op=1):oneS lim L heard made s=mk lim L ⟨1,4294967296+s.n,0,0,0⟩:=by
 have hah:=zE2 (made:=made) hr (by omega) (by simp[zAp,uses,hop]);have h2:s.n<1048576:=by
  have:=hr.2.1;omega
 unfold oneS;rw[if_neg (by omega),if_pos hop,if_pos ⟨h2,by simpa[uses,hop]using hah⟩]
theorem zTX (hr:zAf s)(hop:s.op=13):oneS lim L heard made s=(L,0,0):=by
 have hah:=zE2 (made:=made) hr (by omega) (by simp[zAp,uses,hop]);have h2:s.n=0:=by
  have:=hr.2.2.1;omega
 unfold oneS;rw[if_neg (by omega),if_neg (by omega),if_neg (by omega),if_neg (by omega),if_neg (by omega),if_neg (by omega),if_neg (by omega),if_neg (by omega),if_neg (by omega),if_neg (by omega),if_pos hop,if_pos ⟨h2,by simpa[uses,hop]using hah⟩]
theorem zRY (hr:zAf s)(hop:s.op=3)(hu:(zAp s).all (ahd made)=true):oneS lim L heard made s=share lim L (mde made s.a) (mde made s.b):=by
 have hah:=zE2 hr (by omega) hu;have h2:s.n=0:=by
  have:=hr.2.2.1;omega
 unfold oneS;rw[if_neg (by omega),if_neg (by omega),if_neg (by omega),if_pos hop,if_pos ⟨h2,by simpa[uses,hop]using hah⟩]
theorem zRX (hr:zAf s)(hop:s.op=10∨s.op=11∨s.op=12)(hu:(zAp s).all (ahd made)=true):oneS lim L heard made s=(L,zOM L s.op (mde made s.a) (mde made s.b)):=by
 have hah:=zE2 hr (by omega) hu;have h2:s.n=0:=by
  have:=hr.2.2.1;omega
 unfold oneS;rw[if_neg (by omega),if_neg (by omega),if_neg (by omega),if_neg (by omega),if_neg (by omega),if_neg (by omega),if_neg (by omega),if_neg (by omega)];by_cases h10:s.op=10∨s.op=11
 · rw[if_pos h10,if_pos ⟨h2,by rcases h10 with h|h<;>simpa[uses,h]using hah⟩]
   rfl
 · have h12:s.op=12:=by omega
   rw[if_neg h10,if_pos h12,if_pos ⟨h2,by simpa[uses,h12]using hah⟩];rfl
end
section
variable {we w:World}{ρ:List (Nat × Obj)}{σ F:List HP}{p lim:Nat}{L L1 L2 L3 L4:List Nd}{s:Sy}{ck x y1 y2 y3 yh e q:Int}{d:Cph}
theorem zHV (hS:St we ρ (zAA p lim L::F) w) :
 Cl Tryz.prog 155 [syV s,pP p,pI x] w fun v w'=>v = .tuple #[syV (zBK lim L s x).2.1,pI (zBK lim L s x).2.2]∧St we ρ (zAA p lim (zBK lim L s x).1::F) w':=by
 unfold zBK;generalize hk:zAj lim L s.ck x=r;obtain⟨L1,y1,y2,e⟩:=r;by_cases he:e=0
 · subst he;exact zRn hk hS
 · simp only[if_neg he];exact zRo hk he hS
theorem zKo (hS:St we ρ (zAA p lim L::F) w) :
 Cl Tryz.prog 152 [syV s,pP p,pI x] w fun v w'=>v = .tuple #[syV (zBG lim L s x).2.1,pI (zBG lim L s x).2.2]∧St we ρ (zAA p lim (zBG lim L s x).1::F) w':=by
 unfold zBG;generalize hk:zBb lim L s.ck x=r;obtain⟨L1,y1,y2,y3,e⟩:=r;by_cases he:e=0
 · subst he
   simp only[if_true];exact zPs hk rfl hS
 · simp only[if_neg he];exact zPt hk he hS
theorem zMu (hS:St we ρ (zAA p lim L::F) w) :
 Cl Tryz.prog 212 [syV s,pP p] w fun v w'=>v = .tuple #[cphV (zBx lim L s).2.1,cphV (zBx lim L s).2.2.1,pI (zBx lim L s).2.2.2]∧St we ρ (zAA p lim (zBx lim L s).1::F) w':=by
 unfold zBx;generalize hk:zAj lim L s.ck 0=r;obtain⟨L1,y1,y2,e⟩:=r;by_cases he:e=0
 · subst he;exact zTB hk hS
 · simp only[if_neg he];exact zTC hk he hS
theorem zVw {c:Cph}{told:Int}{s2:Sy}(h:zAW lim L ⟨s.ck,s.h,c⟩ x=(L1,s2,e))(hS:St we ρ (zAA p lim L::F) w) :
 Cl Tryz.prog 211 [syV s,pP p,cphV c,pI x,pI told] w fun v w'=>v = .tuple #[syV (if e=0 then s2 else .z),pI (if e=0 then told else 0),pI e]∧St we ρ (zAA p lim L1::F) w':=by
 by_cases he:e=0
 · subst he
   refine Run.calls5 (n:=29) Tryz.func211 rfl rfl rfl ?_;repeat' first|(refine Qv 209 (zCR (s:=⟨s.ck,s.h,c⟩) h hS.tk) ?_;clear hS;intro w1 hS)|apply Qs|apply Qr|(apply Rs<;>intro hc<;>try exact No)|apply Qn|refine Ql ?_|(refine Qx ?_;clear hS;intro b w1 hS)|(refine Qa ?_;clear hS;intro b w1 hS)|(refine Qd ?_;clear hS;intro w1 hS)|refine Qf ?_|apply Qk
   refine Qw Tryz.func211 ?_;exact Xp
 · rw[if_neg he,if_neg he]
   refine Run.calls5 (n:=29) Tryz.func211 rfl rfl rfl ?_;repeat' first|(refine Qv 209 (zCR (s:=⟨s.ck,s.h,c⟩) h hS.tk) ?_;clear hS;intro w1 hS)|apply Qs|apply Qr|(apply Rs<;>intro hc<;>try exact No)|apply Qn|refine Ql ?_|(refine Qx ?_;clear hS;intro b w1 hS)|(refine Qa ?_;clear hS;intro b w1 hS)|(refine Qd ?_;clear hS;intro w1 hS)|refine Qt ?_
   refine Qw Tryz.func211 ?_;exact Xp
theorem zJ5 {c:Cph}{told:Int}(hS:St we ρ (zAA p lim L::F) w) :
 Cl Tryz.prog 211 [syV s,pP p,cphV c,pI x,pI told] w fun v w'=>v = .tuple #[syV (zDy lim L s c x told).2.1,pI (zDy lim L s c x told).2.2.1,pI (zDy lim L s c x told).2.2.2]∧St we ρ (zAA p lim (zDy lim L s c x told).1::F) w':=by
 unfold zDy;generalize hk:zAW lim L ⟨s.ck,s.h,c⟩ x=r;obtain⟨L1,s2,e⟩:=r;have:=zVw (told:=told) hk hS;by_cases he:e=0
 · subst he;simpa using this
 · simpa[he]using this
theorem zPD {t:Int}{s2:Sy}(h:zBE lim L s.c s.h q=(L1,d,x,e))(h2:zDy lim L1 s d x x=(L2,s2,t,y1))(hS:St we ρ (zAA p lim L::F) w) :
 Cl Tryz.prog 247 [syV s,pP p,pI q] w fun v w'=>v = .tuple #[syV (if e=0 then s2 else .z),pI (if e=0 then t else 0),pI (if e=0 then y1 else e)]∧St we ρ (zAA p lim (if e=0 then L2 else L1)::F) w':=by
 have h2':∀{F w},St we ρ (zAA p lim L1::F) w→Cl Tryz.prog 211 [syV s,pP p,cphV d,pI x,pI x] w fun v w'=>v = .tuple #[syV s2,pI t,pI y1]∧St we ρ (zAA p lim L2::F) w':=fun hS=>by
  have:=zJ5 (s:=s) (c:=d) (x:=x) (told:=x) hS;rwa [h2]at this
 by_cases he:e=0
 · subst he
   refine Run.calls3 (n:=36) Tryz.func247 rfl rfl rfl ?_;repeat' first|(refine Qv 197 (zM4 (c:=s.c) h hS.tk) ?_;clear hS;intro w1 hS)|(refine Qv 211 (h2' hS.tk) ?_;clear hS;intro w1 hS)|apply Qs|apply Qr|(apply Rs<;>intro hc<;>try exact No)|apply Qn|refine Ql ?_|(refine Qx ?_;clear hS;intro b w1 hS)|(refine Qa ?_;clear hS;intro b w1 hS)|(refine Qd ?_;clear hS;intro w1 hS)|refine Qf ?_|apply Qk
   refine Qw Tryz.func247 ?_;exact Xp
 · simp only[if_neg he]
   refine Run.calls3 (n:=36) Tryz.func247 rfl rfl rfl ?_;repeat' first|(refine Qv 197 (zM4 (c:=s.c) h hS.tk) ?_;clear hS;intro w1 hS)|apply Qs|apply Qr|(apply Rs<;>intro hc<;>try exact No)|apply Qn|refine Ql ?_|(refine Qx ?_;clear hS;intro b w1 hS)|(refine Qa ?_;clear hS;intro b w1 hS)|(refine Qd ?_;clear hS;intro w1 hS)|refine Qt ?_
   refine Qw Tryz.func247 ?_;exact Xp
theorem zKL (hS:St we ρ (zAA p lim L::F) w) :
 Cl Tryz.prog 247 [syV s,pP p,pI q] w fun v w'=>v = .tuple #[syV (zAy lim L s q).2.1,pI (zAy lim L s q).2.2.1,pI (zAy lim L s q).2.2.2]∧St we ρ (zAA p lim (zAy lim L s q).1::F) w':=by
 unfold zAy;generalize hk:zBE lim L s.c s.h q=r;obtain⟨L1,d,x,e⟩:=r;simp only;generalize hk2:zDy lim L1 s d x x=r2;obtain⟨L2,s2,t,y1⟩:=r2;have:=zPD hk hk2 hS;by_cases he:e=0
 · subst he;simpa using this
 · simpa[he]using this
theorem zPE {t:Int}{s2:Sy}(h:zCB L s.c s.h x=(d,q,e))(h2:zDy lim L s d x q=(L2,s2,t,y1))(hS:St we ρ (zAA p lim L::F) w) :
 Cl Tryz.prog 157 [syV s,pP p,pI x] w fun v w'=>v = .tuple #[syV (if e=0 then s2 else .z),pI (if e=0 then t else 0),pI (if e=0 then y1 else e)]∧St we ρ (zAA p lim (if e=0 then L2 else L)::F) w':=by
 have h2':∀{F w},St we ρ (zAA p lim L::F) w→Cl Tryz.prog 211 [syV s,pP p,cphV d,pI x,pI q] w fun v w'=>v = .tuple #[syV s2,pI t,pI y1]∧St we ρ (zAA p lim L2::F) w':=fun hS=>by
  have:=zJ5 (s:=s) (c:=d) (x:=x) (told:=q) hS;rwa [h2]at this
 by_cases he:e=0
 · subst he
   refine Run.calls3 (n:=36) Tryz.func157 rfl rfl rfl ?_;repeat' first|(refine Qv 65 (zNO (c:=s.c) h hS.tk) ?_;clear hS;intro w1 hS)|(refine Qv 211 (h2' hS.tk) ?_;clear hS;intro w1 hS)|apply Qs|apply Qr|(apply Rs<;>intro hc<;>try exact No)|apply Qn|refine Ql ?_|(refine Qx ?_;clear hS;intro b w1 hS)|(refine Qa ?_;clear hS;intro b w1 hS)|(refine Qd ?_;clear hS;intro w1 hS)|refine Qf ?_|apply Qk
   refine Qw Tryz.func157 ?_;exact Xp
 · simp only[if_neg he]
   refine Run.calls3 (n:=36) Tryz.func157 rfl rfl rfl ?_;repeat' first|(refine Qv 65 (zNO (c:=s.c) h hS.tk) ?_;clear hS;intro w1 hS)|apply Qs|apply Qr|(apply Rs<;>intro hc<;>try exact No)|apply Qn|refine Ql ?_|(refine Qx ?_;clear hS;intro b w1 hS)|(refine Qa ?_;clear hS;intro b w1 hS)|(refine Qd ?_;clear hS;intro w1 hS)|refine Qt ?_
   refine Qw Tryz.func157 ?_;exact Xp
theorem zKM (hS:St we ρ (zAA p lim L::F) w) :
 Cl Tryz.prog 157 [syV s,pP p,pI x] w fun v w'=>v = .tuple #[syV (zBB lim L s x).2.1,pI (zBB lim L s x).2.2.1,pI (zBB lim L s x).2.2.2]∧St we ρ (zAA p lim (zBB lim L s x).1::F) w':=by
 unfold zBB;generalize hk:zCB L s.c s.h x=r;obtain⟨d,q,e⟩:=r;simp only;generalize hk2:zDy lim L s d x q=r2;obtain⟨L2,s2,t,y1⟩:=r2;have:=zPE hk hk2 hS;by_cases he:e=0
 · subst he;simpa using this
 · simpa[he]using this
end
def zCh (s:ByteArray):List Int:=s.data.toList.map fun b=>(b.toNat:Int)
def zEH (lim:Nat)(L:List Nd)(t c:Int):List Nd × Int × Int :=
 if(mk lim L ⟨9,c,0,0,0⟩).2.2=0 then mk lim (mk lim L ⟨9,c,0,0,0⟩).1 ⟨8,0,t,(mk lim L ⟨9,c,0,0,0⟩).2.1,0⟩ else mk lim L ⟨9,c,0,0,0⟩
def zBj (lim:Nat):List Nd→Int→List Int→List Nd × Int × Int
 | L,t,[]=>(L,t,0)
 | L,t,c::l=>if(zEH lim L t c).2.2=0 then zBj lim (zEH lim L t c).1 (zEH lim L t c).2.1 l else zEH lim L t c
def zBX (lim:Nat)(L:List Nd)(name:ByteArray)(pr:Int):List Nd × Sy × Int :=
 if 100<name.size∨has L pr=false then(L,.z,1)
 else if(zBj lim L 0 (zCh name)).2.2=0 then zAW lim (zBj lim L 0 (zCh name)).1 ⟨(zBj lim L 0 (zCh name)).2.1,(zBj lim L 0 (zCh name)).2.1,.z⟩ pr
 else((zBj lim L 0 (zCh name)).1,.z,(zBj lim L 0 (zCh name)).2.2)
section
variable {we w:World}{ρ:List (Nat × Obj)}{σ F:List HP}{p lim:Nat}{L:List Nd}
theorem zI7 {name:ByteArray}{pr:Int}(hS:St we ρ (zAA p lim L::F) w) :
 Cl Tryz.prog 194 [pP p,.string name,pI pr] w fun v w'=>v = .tuple #[syV (zBX lim L name pr).2.1,pI (zBX lim L name pr).2.2]∧St we ρ (zAA p lim (zBX lim L name pr).1::F) w':=by
 unfold zBX;by_cases hn:100<name.size
 · rw[if_pos (.inl hn)]
   refine Run.calls3 (n:=61) Tryz.func194 rfl rfl rfl ?_;repeat' first|apply Qs|apply Qr|(apply Rs<;>intro hc<;>try exact No)|apply Qn|refine Ql ?_|(refine Qa ?_;clear hS;intro b w1 hS)|(refine Qd ?_;clear hS;intro w1 hS)|refine Qz ?_|refine Qt ?_
   refine Qw Tryz.func194 ?_;exact Xp
 cases hp:has L pr
 · rw[if_pos (.inr rfl)]
   refine Run.calls3 (n:=61) Tryz.func194 rfl rfl rfl ?_;repeat' first|(refine Qv 22 (zUY hp hS.tk (by exact Rd.any)) ?_;clear hS;intro w1 hS)|apply Qs|apply Qr|(apply Rs<;>intro hc<;>try exact No)|apply Qn|refine Ql ?_|(refine Qa ?_;clear hS;intro b w1 hS)|(refine Qd ?_;clear hS;intro w1 hS)|(refine Qg ?_;clear hS;intro b w1 hS)|refine Qy ?_|refine Qt ?_
   refine Qw Tryz.func194 ?_;exact Xp
 rw[if_neg (by simp[hn])];obtain⟨q,hq⟩:∃q,zBj lim L 0 (zCh name)=q:=⟨_,rfl⟩
 have hlen:(zCh name).length=name.size:=by simp[zCh]
 have hget:∀(i:Nat) (h:i<name.size) (h2:i<(zCh name).length),(zCh name)[i]=((name[i]'h).toNat:Int):=by
  intro i h h2;simp[zCh];rfl
 generalize hbz:zCh name=l at hq hlen hget;rw[hq];refine Run.calls3 (n:=61) Tryz.func194 rfl rfl rfl ?_;repeat' first|(refine Qv 22 (zUY hp hS.tk (by exact Rd.any)) ?_;clear hS;intro w1 hS)|apply Qs|apply Qr|(apply Rs<;>intro hc<;>try exact No)|apply Qn|refine Ql ?_|(refine Qa ?_;clear hS;intro b w1 hS)|(refine Qg ?_;clear hS;intro b w1 hS)|refine Qy ?_|refine Qf ?_|apply Qk|apply Qb
 rename_i b6 _ _;refine Run.while (fun x:Nat × Int × List Nd=>[(0,pP p),(2,pI pr),(6,pP b6),(8,pI x.2.1),(24,pI name.size),(25,pI x.1),(1,.string name)])
  (fun x w=>x.1≤name.size∧zBj lim x.2.2 x.2.1 (l.drop x.1)=q∧St we ρ (zAA p lim x.2.2::Row b6 [pI 0,pI 0,pI 0,.bool false,.int .u64 0] 90::F) w) (fun x=>name.size - x.1) (0,0,L)
  ⟨by simp,by simpa using hq,hS.pk⟩ (by exact Sb) ?_
 clear hS hq;rintro⟨i,t,L1⟩ w ⟨hi,hq,hS⟩ ih;simp only at hi hq hS ih ⊢;by_cases hlt:i<name.size
 · have hlt':((i:Nat):Int).toNat<name.size:=by omega
   have hb256:(name[i]'hlt).toNat<256:=UInt8.toNat_lt _;have hcv:IntKind.u64.wrap (((name[i]'hlt).toNat:Nat):Int)=(((name[i]'hlt).toNat:Nat):Int):=zF1 (by omega) (by omega);rw[List.drop_eq_getElem_cons (by omega),hget i hlt (by omega),zBj]at hq;unfold zEH at hq;by_cases h1:(mk lim L1 ⟨9,((name[i]'hlt).toNat:Int),0,0,0⟩).2.2=0
   · rw[if_pos h1]at hq
     have m1:=zCn h1;generalize (mk lim L1 ⟨9,((name[i]'hlt).toNat:Int),0,0,0⟩).1=L2 at m1 hq;generalize (mk lim L1 ⟨9,((name[i]'hlt).toNat:Int),0,0,0⟩).2.1=wd at m1 hq;by_cases h2:(mk lim L2 ⟨8,0,t,wd,0⟩).2.2=0
     · rw[if_pos h2]at hq
       have m2:=zCn h2;generalize (mk lim L2 ⟨8,0,t,wd,0⟩).1=L3 at m2 hq;generalize (mk lim L2 ⟨8,0,t,wd,0⟩).2.1=t2 at m2 hq;repeat' first|(refine Ql ?_ (h:=by apply Still.byteAt (s:=name) (i:=((i:Nat):Int)) (h1:=hlt');rfl;rfl;rfl;omega))|(refine Ql ?_ (h:=by apply Still.conv;rfl;rfl;rfl;exact hcv))|(apply RO.op;apply OP.callF;rfl;rfl;rfl;show Cl _ 80 _ _ _;(first|(apply zEY m1;apply hS.take;exact An)|(apply zEY m2;apply hS.take;exact An));clear hS;rintro v w1 ⟨rfl,hS⟩)|apply Qs|apply Qr|(apply Rs<;>intro hc<;>try exact No)|apply Qn|refine Ql ?_|refine Qt ?_|refine Qf ?_|apply Qk|apply Qb|apply Qi
       exact Run.weaken (by exact Sb) (ih (i+1,t2,L3) _ ⟨by simp;omega,hq,hS.pk⟩ (by simp;omega))
     · rw[if_neg h2]at hq
       have m2:=zHS h2;generalize (mk lim L2 ⟨8,0,t,wd,0⟩).2.2=e2 at m2 hq h2;subst hq;repeat' first|(refine Ql ?_ (h:=by apply Still.byteAt (s:=name) (i:=((i:Nat):Int)) (h1:=hlt');rfl;rfl;rfl;omega))|(refine Ql ?_ (h:=by apply Still.conv;rfl;rfl;rfl;exact hcv))|(apply RO.op;apply OP.callF;rfl;rfl;rfl;show Cl _ 80 _ _ _;(first|(apply zEY m1;apply hS.take;exact An)|(apply zEY m2;apply hS.take;exact An));clear hS;rintro v w1 ⟨rfl,hS⟩)|apply Qs|apply Qr|(apply Rs<;>intro hc<;>try exact No)|apply Qn|refine Ql ?_|(refine Qd ?_;clear hS;intro w1 hS)|refine Qt ?_|apply Qk|apply Qb
       refine Qw Tryz.func194 ?_;rw[m2];simp only;rw[if_neg h2];exact Xp
   · rw[if_neg h1]at hq
     have m1:=zHS h1;rw[if_neg h1]at hq;generalize (mk lim L1 ⟨9,((name[i]'hlt).toNat:Int),0,0,0⟩).2.2=e1 at m1 hq h1;subst hq;repeat' first|(refine Ql ?_ (h:=by apply Still.byteAt (s:=name) (i:=((i:Nat):Int)) (h1:=hlt');rfl;rfl;rfl;omega))|(refine Ql ?_ (h:=by apply Still.conv;rfl;rfl;rfl;exact hcv))|(apply RO.op;apply OP.callF;rfl;rfl;rfl;show Cl _ 80 _ _ _;(apply zEY m1;apply hS.take;exact An);clear hS;rintro v w1 ⟨rfl,hS⟩)|apply Qs|apply Qr|(apply Rs<;>intro hc<;>try exact No)|apply Qn|refine Ql ?_|(refine Qd ?_;clear hS;intro w1 hS)|refine Qt ?_|refine Qf ?_|apply Qk|apply Qb
     refine Qw Tryz.func194 ?_;rw[m1];simp only;rw[if_neg h1];exact Xp
 · obtain rfl:i=name.size:=by omega
   rw[List.drop_of_length_le (by omega)]at hq;subst hq;simp only[zBj,if_true];repeat' first|(refine Qv 209 (zGN (s:=⟨t,t,.z⟩) (x:=pr) hS.tk) ?_;clear hS;intro w1 hS)|apply Qs|apply Qr|(apply Rs<;>intro hc<;>try exact No)|apply Qn|refine Ql ?_|(refine Qd ?_;clear hS;intro w1 hS)|refine Qf ?_|refine Qe ?_
   refine Qw Tryz.func194 ?_;exact Xp
end
end Go.Proofs.YtcikdogkkgefcaaGreatDoor
