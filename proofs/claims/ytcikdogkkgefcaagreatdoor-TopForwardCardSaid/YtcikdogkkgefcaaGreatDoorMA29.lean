/- The patterns that have names: base.rows, Names, Base. A pattern in memory of its own: base.own. A pattern with a psk more; with its first message told beforehand: base.Psk, Fallback. -/
import Derived.Test.YtcikdogkkgefcaaGreatDoorMA28
namespace Go.Proofs.YtcikdogkkgefcaaGreatDoor
set_option maxRecDepth 8000
set_option maxHeartbeats 16000000
set_option linter.unusedVariables false
set_option linter.unusedSimpArgs false
open Go Go.RowKit
structure Bw where
 nm:ByteArray
 a:ByteArray
 b:ByteArray
 m:ByteArray
def bwL (x:Bw):List Value:=[.string x.nm,.string x.a,.string x.b,.string x.m]
theorem zQV (x:Bw):(bwL x).length=4:=rfl
def zCJ:List Bw:=[⟨⟨#[78]⟩,⟨#[]⟩,⟨#[115]⟩,⟨#[101,32,101,115]⟩⟩,
 ⟨⟨#[75]⟩,⟨#[115]⟩,⟨#[115]⟩,⟨#[101,32,101,115,32,115,115]⟩⟩,
 ⟨⟨#[88]⟩,⟨#[]⟩,⟨#[115]⟩,⟨#[101,32,101,115,32,115,32,115,115]⟩⟩,
 ⟨⟨#[78,78]⟩,⟨#[]⟩,⟨#[]⟩,⟨#[101,59,101,32,101,101]⟩⟩,
 ⟨⟨#[78,75]⟩,⟨#[]⟩,⟨#[115]⟩,⟨#[101,32,101,115,59,101,32,101,101]⟩⟩,
 ⟨⟨#[78,88]⟩,⟨#[]⟩,⟨#[]⟩,⟨#[101,59,101,32,101,101,32,115,32,101,115]⟩⟩,
 ⟨⟨#[88,78]⟩,⟨#[]⟩,⟨#[]⟩,⟨#[101,59,101,32,101,101,59,115,32,115,101]⟩⟩,
 ⟨⟨#[88,75]⟩,⟨#[]⟩,⟨#[115]⟩,⟨#[101,32,101,115,59,101,32,101,101,59,115,32,115,101]⟩⟩,
 ⟨⟨#[88,88]⟩,⟨#[]⟩,⟨#[]⟩,⟨#[101,59,101,32,101,101,32,115,32,101,115,59,115,32,115,101]⟩⟩,
 ⟨⟨#[75,78]⟩,⟨#[115]⟩,⟨#[]⟩,⟨#[101,59,101,32,101,101,32,115,101]⟩⟩,
 ⟨⟨#[75,75]⟩,⟨#[115]⟩,⟨#[115]⟩,⟨#[101,32,101,115,32,115,115,59,101,32,101,101,32,115,101]⟩⟩,
 ⟨⟨#[75,88]⟩,⟨#[115]⟩,⟨#[]⟩,⟨#[101,59,101,32,101,101,32,115,101,32,115,32,101,115]⟩⟩,
 ⟨⟨#[73,78]⟩,⟨#[]⟩,⟨#[]⟩,⟨#[101,32,115,59,101,32,101,101,32,115,101]⟩⟩,
 ⟨⟨#[73,75]⟩,⟨#[]⟩,⟨#[115]⟩,⟨#[101,32,101,115,32,115,32,115,115,59,101,32,101,101,32,115,101]⟩⟩,
 ⟨⟨#[73,88]⟩,⟨#[]⟩,⟨#[]⟩,⟨#[101,32,115,59,101,32,101,101,32,115,101,32,115,32,101,115]⟩⟩]
def zOE (l:List ByteArray)(n:Nat):List Msg:=(List.range n).map fun i=>⟨((i % 2:Nat):Int),zAa (l.getD i ⟨#[]⟩)⟩
theorem zQa (l:List ByteArray)(n:Nat):zOE l (n+1)=zOE l n++[⟨((n % 2:Nat):Int),zAa (l.getD n ⟨#[]⟩)⟩]:=by
 unfold zOE;rw[List.range_succ,List.map_append];rfl
def bwZ:Bw:=⟨⟨#[]⟩,⟨#[]⟩,⟨#[]⟩,⟨#[]⟩⟩
def zPL:ByteArray:=⟨#[59]⟩
def zOB (name:ByteArray):Pat × Int :=
 if zAQ (fun y=>decide (name=y)) (zCJ.map (·.nm)) 0<0 then(.z,4)
 else
  let x:=zCJ.getD (zAQ (fun y=>decide (name=y)) (zCJ.map (·.nm)) 0).toNat bwZ
  (⟨name,zAa x.a,zAa x.b,zOE (zBD x.m zPL) (zBD x.m zPL).length⟩,0)
theorem zTL:∀x∈zCJ,zI2 x.a=true∧zI2 x.b=true∧zI2 x.m=true∧x.a.size≤100∧x.b.size≤100∧x.m.size≤100:=by decide
theorem zM8:∀x∈zCJ,(zBD x.m zPL).length≤3∧∀y∈zBD x.m zPL,zI2 y=true∧y.size≤100:=by decide
section
variable {we w:World}{ρ:List (Nat × Obj)}{σ F:List HP}{v:Value}
theorem zJc (hS:St we ρ σ w):Cl Tryz.prog 184 [] w fun v w'=>∃ ρ',Over we ρ ρ'∧Sl ρ' bwL 4 v zCJ∧St we ρ' σ w':=by
 refine Run.calls0 (n:=17) Tryz.func184 rfl rfl ?_;repeat' first|apply Qs|apply Qr|apply Qn|refine Ql ?_|(refine Qg ?_;clear hS;intro b w1 hS)
 refine Qw Tryz.func184 ?_;have hV:St we ρ (Vec 290 4 (.slice (some ⟨b,0,none⟩) 15 15) zCJ.length (zCJ.flatMap bwL) :: σ) w1:=zBF (l:=zCJ.flatMap bwL) hS.pk (by decide) (by unfold maxLen;decide) (by decide) (by rfl);exact zAH zQV hV
theorem Sl.agg {α:Type}{g : α→List Value}{size:Nat}{p:Option Addr}{cap:Nat}{l:List α}(h:Sl ρ g size (.slice p l.length cap) l){i:Nat}(hi:i<l.length) :
 ∃b off cs el fr,p=some ⟨b,off,none⟩∧(b,Obj.cells (List.toArray cs) el fr) ∈ ρ∧(cs.drop (off+i*size)).take size=g l[i]:=by
 obtain⟨p',cap',e,_,_,h4⟩:=h.val;simp only[Value.slice.injEq]at e;obtain⟨rfl,-,rfl⟩:=e;obtain⟨b,off,cs,el,fr,e1,e2,e3⟩:=h4 (by omega);exact⟨b,off,cs,el,fr,e1,e2,e3 i hi⟩
theorem zGJ (hS:St we ρ σ w):Cl Tryz.prog 183 [] w fun v w'=>St we ρ (Vec 9 1 v 15 ((zCJ.map (·.nm)).flatMap strL) :: σ) w':=by
 refine Run.calls0 (n:=17) Tryz.func183 rfl rfl ?_;repeat' first|(refine Qc 184 (c:=zJc hS) (k':=?_);clear hS;rintro v w1 ⟨ρ2,o2,s2,hS⟩;obtain⟨rq,rc,rfl,-⟩:=s2.val)|apply Qs|apply Qr|apply Qn|refine Ql ?_|apply Qb
 refine Run.while (fun x:Nat × Value=>[(4,.slice rq zCJ.length rc),(5,pI 15),(6,pI x.1),(1,x.2)])
  (fun x w=>x.1≤15∧St we ρ2 (Vec 9 1 x.2 x.1 (((zCJ.take x.1).map (·.nm)).flatMap strL) :: σ) w) (fun x=>15 - x.1) (0,.slice none 0 0) ⟨by simp,zAh hS.pk⟩ (by exact Sb) ?_
 clear hS;rintro⟨i,ov⟩ w ⟨hi,hS⟩ ih;simp only at hi hS ih ⊢;by_cases hlt:i<15
 · replace ih:=fun v w h=>ih (i+1,v) w ⟨by simp only;omega,h⟩ (by simp only;omega)
   have hl:i<zCJ.length:=hlt;have hd:zCJ.take (i+1)=zCJ.take i++[zCJ[i]]:=List.take_succ_eq_append_getElem hl;obtain⟨b0,o0,cs0,e0,f0,rfl,m0,hcell⟩:=s2.agg hl;simp only[hd,List.map_append,List.flatMap_append,List.map_cons,List.map_nil,List.flatMap_cons,List.flatMap_nil,List.append_nil]at ih;generalize ((zCJ.take i).map (·.nm)).flatMap strL=xs at hS ih;generalize zCJ[i]=y at hcell ih;repeat' first|(refine Ql ?_ (h:=by apply Still.loadAgg (m:=4);rfl;rfl;rfl;exact Rd.ro m0;exact hcell;rfl))|(apply RO.op;apply OP.append (size:=1) (bytes:=16) (k:=1) (news:=[.string y.nm]) hS;rfl;rfl;rfl;rfl;rfl;rfl;rfl;rfl;exact(by omega);exact An;(exact Rd.any);rfl;rfl;exact(by intro v hv;simp at hv;subst hv;rfl);(exact(by unfold maxLen;omega));(exact(by omega));rfl;clear hS;intro v2 w1 hS)|apply Qs|apply Qr|(apply Rs<;>intro hc<;>try exact No)|apply Qn|refine Ql ?_|(refine Qa ?_;clear hS;intro b w1 hS)|(refine Qd ?_;clear hS;intro w1 hS)|(refine Qg ?_;clear hS;intro b w1 hS)|refine Qt ?_|apply Qk|apply Qb|apply Qi
   exact Run.weaken (e':=[(4,.slice (some ⟨b0,o0,none⟩) zCJ.length rc),(5,pI 15),(6,pI ((i+1:Nat):Int)),(1,v2)]) (by exact Sb) (ih v2 _ hS.pk)
 · obtain rfl:i=15:=by omega
   repeat' first|apply Qs|apply Qr|(apply Rs<;>intro hc<;>try exact No)|apply Qn|refine Ql ?_|refine Qf ?_|refine Qe ?_
   refine Qw Tryz.func183 ?_;exact o2.back hS.pk
theorem zRb (ρ:List (Nat × Obj)){α:Type}(g : α→List Value)(size:Nat):Sl ρ g size (.slice none 0 0) []:=⟨⟨none,0,rfl,by simp,by simp,fun h=>by simp at h⟩⟩
theorem patZ:PatR ρ (.agg #[.string ⟨#[]⟩,.slice none 0 0,.slice none 0 0,.slice none 0 0]) Pat.z:=PatR.mk (p:=Pat.z) (ms:=[]) (zRb _ _ _) (zRb _ _ _) (zRb _ _ _) .nil
theorem zQX {name:ByteArray}(hv:Vars we)(hT:zBf we)(hS:St we ρ σ w) :
 Cl Tryz.prog 144 [.string name] w fun v w'=>∃pv ρ',v = .tuple #[pv,pI (zOB name).2]∧Over we ρ ρ'∧PatR ρ' pv (zOB name).1∧St we ρ' σ w':=by
 obtain⟨k,hk⟩:∃k,zAQ (fun y=>decide (name=y)) (zCJ.map (·.nm)) 0=k:=⟨_,rfl⟩
 have kI:∀{ρ2:List (Nat × Obj)} {v:Value},Sl ρ2 strL 1 v (zCJ.map (·.nm))→∀{σ:List HP} {w:World},St we ρ2 σ w→_:=fun s2 _ _ hS=>zJv (x:=name) s2 (by decide) hS
 simp only[hk]at kI;unfold zOB;rw[hk];by_cases h0:k<0
 · rw[if_pos h0]
   refine Run.calls1 (n:=49) Tryz.func144 rfl rfl rfl ?_;repeat' first|(refine Qc 183 (c:=zGJ hS) (k':=?_);clear hS;rintro v w1 hS;obtain⟨ρ2,o2,s2,hT⟩:=zAH (l:=zCJ.map (·.nm)) zBU hS;clear hS;have hS:=hT;clear hT)|(refine Qv 182 (kI s2 hS) ?_;clear hS;intro w1 hS)|apply Qs|apply Qr|(apply Rs<;>intro hc<;>try exact No)|apply Qn|refine Ql ?_|(refine Qa ?_;clear hS;intro b w1 hS)|(refine Qd ?_;clear hS;intro w1 hS)|refine Qt ?_
   refine Qw Tryz.func144 ?_;exact⟨.agg #[.string ⟨#[]⟩,.slice none 0 0,.slice none 0 0,.slice none 0 0],ρ2,rfl,o2,patZ,hS.pk⟩
 · rw[if_neg h0]
   obtain⟨j,hj,hjl⟩:=zG6 (p:=fun y=>decide (name=y)) (l:=zCJ.map (·.nm)) (i:=0) (by omega) (by rw[hk];omega);rw[hk,Int.zero_add]at hj;subst hj;have hjl2:j<zCJ.length:=by simpa using hjl
   have hx:zCJ.getD ((j:Int)).toNat bwZ=zCJ[j]:=by rw[Int.toNat_natCast,List.getD_eq_getElem?_getD,List.getElem?_eq_getElem hjl2];rfl
   rw[hx];obtain⟨a1,a2,a3,a4,a5,a6⟩:=zTL _ (List.getElem_mem hjl2);obtain⟨a7,a8⟩:=zM8 _ (List.getElem_mem hjl2);refine Run.calls1 (n:=49) Tryz.func144 rfl rfl rfl ?_;repeat' first|(refine Qc 183 (c:=zGJ hS) (k':=?_);clear hS;rintro v w1 hS;obtain⟨ρ2,o2,s2,hT⟩:=zAH (l:=zCJ.map (·.nm)) zBU hS;clear hS;have hS:=hT;clear hT)|(refine Qv 182 (kI s2 hS) ?_;clear hS;intro w1 hS)|(refine Qc 184 (c:=zJc hS) (k':=?_);clear hS;rintro v w1 ⟨ρ3,o3,s3,hS⟩;obtain⟨rq,rc,rfl,-⟩:=s3.val;obtain⟨b0,o0,cs0,e0,f0,rfl,m0,hcell⟩:=s3.agg hjl2;generalize zCJ[j]=x at *)|(refine Ql ?_ (h:=by apply Still.loadAgg (m:=4);rfl;rfl;rfl;exact Rd.ro m0;exact hcell;rfl))|apply Qs|apply Qr|(apply Rs<;>intro hc<;>try exact No)|apply Qn|refine Ql ?_|(refine Qa ?_;clear hS;intro b w1 hS)|(refine Qd ?_;clear hS;intro w1 hS)|refine Qf ?_|apply Qk
   simp only;rename_i b2 y0 y1 y2 y3 y4;obtain⟨b5,hb5⟩:∃x,x=b:=⟨_,rfl⟩
   subst hb5;have hS2:St we ρ3 (Row b5 (bwL x) 290::Row b2 [.string ⟨#[]⟩,.slice none 0 0,.slice none 0 0,.slice none 0 0] 84 :: σ) _:=hS.pk;clear hS;have hS:=hS2;clear hS2 kI;have kA:∀{σ:List HP} {w:World},St we ρ3 σ w→_:=fun hS=>zEa (s:=x.a) hT (by omega) a1 hS
   have kB:∀{σ:List HP} {w:World},St we ρ3 σ w→_:=fun hS=>zEa (s:=x.b) hT (by omega) a2 hS
   refine(Run.regionH_cut (fun a:Nat × (Option Addr × Nat) × (Option Addr × Nat)=>Row a.1 [.string name,.slice a.2.1.1 (zAa x.a).length a.2.1.2,.slice a.2.2.1 (zAa x.b).length a.2.2.2,.slice none 0 0] 84::Vec 3 1 (.slice a.2.1.1 (zAa x.a).length a.2.1.2) (zAa x.a).length ((zAa x.a).flatMap intL)::Vec 3 1 (.slice a.2.2.1 (zAa x.b).length a.2.2.2) (zAa x.b).length ((zAa x.b).flatMap intL)::Row b5 (bwL x) 290::Row b2 [.string ⟨#[]⟩,.slice none 0 0,.slice none 0 0,.slice none 0 0] 84 :: σ)
    (fun a=>[(0,.string name),(2,pP b2),(5,pP b5),(6,pP a.1)])
    hS (List.Sublist.refl _) (by rfl) (by rfl) (by rfl) ?_ ?_)
   · clear hS
     intro w1 hS;refine RH.relist (listed':=bm 11 0) (by kernel_rfl) ?_;repeat' first|refine Yt 0 0 ?_|refine Yl 1 1 ?_|refine Yl 3 2 ?_|refine Yl 7 4 ?_|refine Yl 23 5 ?_|refine Yt 127 7 ?_|refine Yt 255 8 ?_|refine Yt 639 7 ?_|refine Yt 767 8 ?_|(apply OP.callF;rfl;rfl;rfl;show Cl _ 185 _ _ _;(first|exact kA hS|exact kB hS);clear hS;intro v w1 hS;obtain⟨pk,cap,rfl⟩:=zAG hS;refine Xh ?_)|(refine Oa ?_;clear hS;intro b w1 hS;refine Xh ?_)|(refine Od ?_;clear hS;intro w1 hS;refine Xh ?_)|refine Jo ?_|refine Zb 55 3 9 ?_ ?_|refine Zb 63 6 9 ?_ ?_|refine Za 511 9 ?_|refine Za 1023 10 ?_|refine Za 575 6 ?_|refine Za 567 3 ?_|(refine Yd 2047 ?_;exact⟨(_,(_,_),(_,_)),(by exact Sb),hS.pk⟩)
   clear hS;rintro⟨b6,⟨qa,ca⟩,qb,cb⟩ w1 hS;simp only at hS ⊢;obtain⟨ρ4,o4,s4,hT4⟩:=zAH zAZ (hS.take (A:=Vec 3 1 (.slice qa (zAa x.a).length ca) (zAa x.a).length ((zAa x.a).flatMap intL)) An);obtain⟨ρ5,o5,s5,hT5⟩:=zAH zAZ (hT4.take (A:=Vec 3 1 (.slice qb (zAa x.b).length cb) (zAa x.b).length ((zAa x.b).flatMap intL)) An);clear hS hT4;have hS:=hT5;clear hT5;have kS:∀{σ:List HP} {w:World},St we ρ5 σ w→_:=fun hS=>zB1 (s:=x.m) (sep:=zPL) hv (by omega) (by decide) hS
   generalize zBD x.m zPL=ws at kS a7 a8;repeat' first|(refine Qc 34 (c:=kS hS) (k':=?_);clear hS;rintro v w1 hS;obtain⟨ρ6,o6,s6,hT⟩:=zAH zBU hS;clear hS;have hS:=hT;clear hT;obtain⟨wq,wc,rfl,-⟩:=s6.val)|apply Qs|apply Qr|apply Qn|refine Ql ?_|apply Qb
   have h5b:=s5.mono o6.sub;have h4b:=s4.mono (o5.trans o6).sub;have hS2:St we ρ6 (Vec 137 2 (.slice none 0 0) 0 []::Row b6 [.string name,.slice qa (zAa x.a).length ca,.slice qb (zAa x.b).length cb,.slice none 0 0] 84::Row b2 [.string ⟨#[]⟩,.slice none 0 0,.slice none 0 0,.slice none 0 0] 84 :: σ) _:=zAh hS.pk;clear hS;refine Run.while (fun z:Nat × Value × List (Int × Value) × List (Nat × Obj)=>[(2,pP b2),(6,pP b6),(30,.slice wq ws.length wc),(31,pI ws.length),(32,pI z.1)])
    (fun z w=>z.1≤ws.length∧MsR z.2.2.2 z.2.2.1 (zOE ws z.1)∧z.2.2.1.length=z.1∧Over we ρ6 z.2.2.2 ∧
      St we z.2.2.2 (Vec 137 2 z.2.1 z.2.2.1.length (z.2.2.1.flatMap msgL)::Row b6 [.string name,.slice qa (zAa x.a).length ca,.slice qb (zAa x.b).length cb,z.2.1] 84::Row b2 [.string ⟨#[]⟩,.slice none 0 0,.slice none 0 0,.slice none 0 0] 84 :: σ) w) (fun z=>ws.length - z.1)
    (0,.slice none 0 0,[],ρ6) ⟨Nat.zero_le _,.nil,rfl,Over.refl _ _,hS2⟩ (by exact Sb) ?_
   clear hS2;rintro⟨i,vm,ms,ρ7⟩ w ⟨hi,hmr,hms,o7,hS⟩ ih;simp only at hi hmr hms o7 hS ih ⊢;obtain⟨qm,cm,rfl⟩:=zAG hS;by_cases hlt:i<ws.length
   · replace ih:=fun v ms ρ' w h1 h2 h3 h4=>ih (i+1,v,ms,ρ') w ⟨by simp only;omega,h1,h2,h3,h4⟩ (by simp only;omega)
     have hget:ws.getD i ⟨#[]⟩=ws[i]:=by rw[List.getD_eq_getElem?_getD,List.getElem?_eq_getElem hlt];rfl
     simp only[zQa,hget]at ih;obtain⟨b0,o0,cs0,e0,f0,hq0,m0,h0⟩:=(s6.mono o7.sub).str hlt;subst hq0;obtain⟨g1,g2⟩:=a8 _ (List.getElem_mem hlt);generalize ws[i]=y at h0 g1 g2 ih;have kY:∀{σ:List HP} {w:World},St we ρ7 σ w→_:=fun hS=>zEa (s:=y) hT (by omega) g1 hS
     have hrem:Int.tmod (i:Int) 2=((i % 2:Nat):Int):=by
      show Int.tmod (i:Int) ((2:Nat):Int)=_;exact(Int.ofNat_tmod i 2).symm
     generalize zOE ws i=am at hmr ih;repeat' first|(refine Ql ?_ (h:=by apply Still.load;rfl;rfl;exact Rd.ro m0;exact h0))|apply Qs|apply Qr|(apply Rs<;>intro hc<;>try exact No)|apply Qn|refine Ql ?_|refine Qt ?_|apply Qk|apply Qb
     have hS2:St we ρ7 (Row b2 [.string ⟨#[]⟩,.slice none 0 0,.slice none 0 0,.slice none 0 0] 84::Vec 137 2 (.slice qm ms.length cm) ms.length (ms.flatMap msgL)::Row b6 [.string name,.slice qa (zAa x.a).length ca,.slice qb (zAa x.b).length cb,.slice qm ms.length cm] 84 :: σ) _:=hS.pk;clear hS;have hS:=hS2;clear hS2;refine(Run.regionH_cut (fun a:(Option Addr × Nat) × (Option Addr × Nat)=>Vec 3 1 (.slice a.1.1 (zAa y).length a.1.2) (zAa y).length ((zAa y).flatMap intL)::Vec 137 2 (.slice a.2.1 (ms.length+1) a.2.2) (ms.length+1) (ms.flatMap msgL++[pI ((i % 2:Nat):Int),.slice a.1.1 (zAa y).length a.1.2]) ::
      Row b6 [.string name,.slice qa (zAa x.a).length ca,.slice qb (zAa x.b).length cb,.slice a.2.1 (ms.length+1) a.2.2] 84::Row b2 [.string ⟨#[]⟩,.slice none 0 0,.slice none 0 0,.slice none 0 0] 84 :: σ)
      (fun _=>[(2,pP b2),(6,pP b6),(30,.slice (some ⟨b0,o0,none⟩) ws.length wc),(31,pI ws.length),(32,pI i)])
      hS (.cons_cons _ (.cons _ (.cons _ (List.Sublist.refl _)))) (by rfl) (by rfl) (by rfl) ?_ ?_)
     · clear hS
       intro w1 hS;refine RH.relist (listed':=bm 11 0) (by kernel_rfl) ?_;repeat' first|(apply Rh<;>intro hc<;>try exact No)|refine Yl 0 0 ?_|refine Yt 1 2 ?_|(refine Yt 5 3 ?_ (h:=by first|(apply Still.rem;rfl;rfl;decide;(first|assumption|rfl))|exact Still.any))|refine Yt 13 4 ?_|refine Yt 63 6 ?_|refine Yl 511 9 ?_|refine Yt 61 6 ?_|refine Om (Xh ?_)|(refine Oc 185 (c:=kY hS) (k':=?_);clear hS;intro v w1 hS;obtain⟨yq,yc,rfl⟩:=zAG hS;refine Xh ?_)|(refine Og ?_;clear hS;intro b w1 hS;refine Xh ?_)|(apply OP.append (size:=2) (bytes:=32) (k:=1) (news:=[pI ((i % 2:Nat):Int),.slice yq (zAa y).length yc]) hS;rfl;rfl;rfl;rfl;rfl;rfl;rfl;rfl;exact(by omega);exact An;(exact Rd.any);rfl;rfl;exact(by intro v hv;simp at hv;rcases hv with rfl|rfl<;>rfl);(exact(by unfold maxLen;omega));(exact(by omega));rfl;clear hS;intro v2 w1 hS;obtain⟨pk2,capk2,rfl⟩:=zAG hS;refine Xh ?_)|(refine Od ?_;clear hS;intro w1 hS;refine Xh ?_)|refine Jo ?_|refine Zb 29 1 5 ?_ ?_|refine Za 31 5 ?_|refine Za 127 7 ?_|refine Za 255 8 ?_|refine Za 1023 10 ?_|refine Zb 125 1 7 ?_ ?_|refine Za 253 1 ?_|(refine Yd 2047 ?_;exact⟨((yq,yc),(pk2,capk2)),(by exact Sb),hS.pk⟩)
     clear hS;rintro⟨⟨yq,yc⟩,mq,mc⟩ w1 hS;simp only at hS ⊢;obtain⟨ρ8,o8,s8,hT8⟩:=zAH zAZ hS;clear hS;have hS:=hT8;clear hT8;repeat' first|apply Qr|apply Qn|refine Ql ?_|apply Qi
     have hfl:(ms++[(((i % 2:Nat):Int),Value.slice yq (zAa y).length yc)]).flatMap msgL=ms.flatMap msgL++[pI ((i % 2:Nat):Int),.slice yq (zAa y).length yc]:=by rw[List.flatMap_append];rfl
     have hll:(ms++[(((i % 2:Nat):Int),Value.slice yq (zAa y).length yc)]).length=ms.length+1:=by simp
     refine Run.weaken (e':=[(2,pP b2),(6,pP b6),(30,.slice (some ⟨b0,o0,none⟩) ws.length wc),(31,pI ws.length),(32,pI ((i+1:Nat):Int))]) (by exact Sb)
      (ih (.slice mq (ms.length+1) mc) (ms++[(((i % 2:Nat):Int),.slice yq (zAa y).length yc)]) ρ8 _ (MsR.snoc (m:=⟨((i % 2:Nat):Int),zAa y⟩) (hmr.mono o8.sub) s8) (by rw[hll,hms]) (o7.trans o8) ?_)
     rw[hfl,hll];exact hS.pk
   · obtain rfl:i=ws.length:=by omega
     obtain⟨ρ8,o8,s8,hT8⟩:=zAH zCQ hS;clear hS;have hS:=hT8;clear hT8;repeat' first|(refine Ql ?_ (h:=by apply Still.loadAgg (m:=4);rfl;rfl;rfl;(exact Rd.any);rfl;rfl))|apply Qs|apply Qr|(apply Rs<;>intro hc<;>try exact No)|apply Qn|refine Ql ?_|(refine Qd ?_;clear hS;intro w1 hS)|refine Qf ?_|refine Qe ?_
     refine Qw Tryz.func144 ?_;refine⟨.agg #[.string name,.slice qa (zAa x.a).length ca,.slice qb (zAa x.b).length cb,.slice qm ms.length cm],ρ8,rfl,o2.trans (o3.trans (o4.trans (o5.trans (o6.trans (o7.trans o8))))),?_,hS.pk⟩;exact PatR.mk (p:=⟨name,zAa x.a,zAa x.b,zOE ws ws.length⟩) (h4b.mono (o7.trans o8).sub) (h5b.mono (o7.trans o8).sub) s8 (hmr.mono o8.sub)
end
def tokI (x:Msg × Value):HP:=Vec 3 1 x.2 x.1.t.length (x.1.t.flatMap intL)
def msOf (tl:List (Msg × Value)):List (Int × Value):=tl.map fun x=>(x.1.who,x.2)
section
variable {we w:World}{ρ:List (Nat × Obj)}{σ F:List HP}{v:Value}
theorem zFr:∀{tl:List (Msg × Value)} {ρ:List (Nat × Obj)} {F:List HP},St we ρ (Each tokI tl::F) w→∃ ρ',Over we ρ ρ'∧(∀x∈tl,Sl ρ' intL 1 x.2 x.1.t)∧St we ρ' F w
 | [],ρ,F,h=>⟨ρ,Over.refl _ _,by simp,h.tail⟩
 | x::tl,ρ,F,h=>by
   have h1:St we ρ (tokI x::Each tokI tl::F) w:=by
    have:=zEw (i:=0) (a:=x) (f:=tokI) rfl h;exact this
   obtain⟨ρ1,o1,s1,h2⟩:=zAH zAZ h1;obtain⟨ρ2,o2,s2,h3⟩:=zFr h2;refine⟨ρ2,o1.trans o2,fun y hy=>?_,h3⟩;rcases List.mem_cons.1 hy with rfl|hy
   · exact s1.mono o2.sub
   · exact s2 y hy
theorem zRh:∀{tl:List (Msg × Value)} {ρ:List (Nat × Obj)},(∀x∈tl,Sl ρ intL 1 x.2 x.1.t)→MsR ρ (msOf tl) (tl.map (·.1))
 | [],ρ,_=>.nil
 | x::tl,ρ,h=>.cons (h x (by simp)) (zRh fun y hy=>h y (by simp[hy]))
theorem zLu {p:Pat}(h0:p.pre0.length≤1000)(h1:p.pre1.length≤1000)(hm:p.msgs.length≤1000)(ht:∀m∈p.msgs,m.t.length≤1000)(hp:PatR ρ v p)(hS:St we ρ σ w) :
 Cl Tryz.prog 236 [v] w fun v w'=>∃q0 c0 q1 c1 qm cm tl,v = .agg #[.string p.name,.slice q0 p.pre0.length c0,.slice q1 p.pre1.length c1,.slice qm p.msgs.length cm]∧tl.map (·.1)=p.msgs ∧
  St we ρ (Vec 3 1 (.slice q0 p.pre0.length c0) p.pre0.length (p.pre0.flatMap intL)::Vec 3 1 (.slice q1 p.pre1.length c1) p.pre1.length (p.pre1.flatMap intL)::Vec 137 2 (.slice qm p.msgs.length cm) p.msgs.length ((msOf tl).flatMap msgL)::Each tokI tl :: σ) w':=by
 obtain⟨hl0,hl1,hlm,hmr⟩:=hp;rename_i v0 v1 vm ms;have hlen:=hmr.length;have kA:∀{σ:List HP} {w:World},St we ρ σ w→_:=fun hS=>zGf hl0 (by omega) hS
 have kB:∀{σ:List HP} {w:World},St we ρ σ w→_:=fun hS=>zGf hl1 (by omega) hS
 obtain⟨q0,c0,rfl,-⟩:=hl0.val;obtain⟨q1,c1,rfl,-⟩:=hl1.val;obtain⟨qm,cm,rfl,-⟩:=hlm.val;refine Run.calls1 (n:=38) Tryz.func236 rfl rfl rfl ?_;repeat' first|apply Qs|apply Qr|apply Qn|(refine Qx ?_;clear hS;intro b w1 hS)|(refine Qa ?_;clear hS;intro b w1 hS)
 rename_i b1 y2;obtain⟨b2,hb2⟩:∃x,x=b:=⟨_,rfl⟩
 subst hb2;refine(Run.regionH_cut (fun a:Nat × (Option Addr × Nat) × (Option Addr × Nat)=>Row a.1 [.string p.name,.slice a.2.1.1 p.pre0.length a.2.1.2,.slice a.2.2.1 p.pre1.length a.2.2.2,.slice none 0 0] 84::Vec 3 1 (.slice a.2.1.1 p.pre0.length a.2.1.2) p.pre0.length (p.pre0.flatMap intL)::Vec 3 1 (.slice a.2.2.1 p.pre1.length a.2.2.2) p.pre1.length (p.pre1.flatMap intL) ::
  Row b2 [.string ⟨#[]⟩,.slice none 0 0,.slice none 0 0,.slice none 0 0] 84::Row b1 [.string p.name,.slice q0 p.pre0.length c0,.slice q1 p.pre1.length c1,.slice qm ms.length cm] 84 :: σ)
  (fun a=>[(1,pP b1),(2,pP b2),(3,pP a.1)])
  hS (List.Sublist.refl _) (by rfl) (by rfl) (by rfl) ?_ ?_)
 · clear hS
   intro w1 hS;refine RH.relist (listed':=bm 14 0) (by kernel_rfl) ?_;repeat' first|refine Yl 0 0 ?_|refine Yl 1 1 ?_|refine Yl 3 2 ?_|(refine Yt 7 3 ?_ (h:=by first|exact Sx|exact Still.any))|refine Yl 15 4 ?_|refine Yl 31 6 ?_|(refine Yt 95 7 ?_ (h:=by first|exact Sx|exact Still.any))|refine Yl 223 8 ?_|refine Yt 1023 10 ?_|refine Yt 2047 11 ?_|refine Yt 5119 10 ?_|refine Yt 6143 11 ?_|(apply OP.callF;rfl;rfl;rfl;show Cl _ 95 _ _ _;(first|exact kA hS|exact kB hS);clear hS;intro v w1 hS;obtain⟨pk,cap,rfl⟩:=zAG hS;refine Xh ?_)|(refine Oa ?_;clear hS;intro b w1 hS;refine Xh ?_)|(refine Od ?_;clear hS;intro w1 hS;refine Xh ?_)|refine Jo ?_|refine Zb 479 5 12 ?_ ?_|refine Zb 511 9 12 ?_ ?_|refine Za 4095 12 ?_|refine Za 8191 13 ?_|refine Za 4607 9 ?_|refine Za 4575 5 ?_|(refine Yd 16383 ?_;exact⟨(_,(_,_),(_,_)),(by exact Sb),hS.pk⟩)
 clear hS;rintro⟨b3,⟨qa,ca⟩,qb,cb⟩ w1 hS;simp only at hS ⊢;repeat' first|apply Qs|apply Qr|apply Qn|refine Ql ?_|apply Qb
 have hS2:St we ρ (Vec 137 2 (.slice none 0 0) 0 []::Row b3 [.string p.name,.slice qa p.pre0.length ca,.slice qb p.pre1.length cb,.slice none 0 0] 84::Each tokI []::Vec 3 1 (.slice qa p.pre0.length ca) p.pre0.length (p.pre0.flatMap intL)::Vec 3 1 (.slice qb p.pre1.length cb) p.pre1.length (p.pre1.flatMap intL)::Row b2 [.string ⟨#[]⟩,.slice none 0 0,.slice none 0 0,.slice none 0 0] 84 :: σ) _ :=
  (zAh (zK5 (f:=tokI) hS)).picks (by focus((repeat(first|apply Picks.all|apply Picks.nil|(refine Picks.cons (by repeat(first|apply Take.head|apply Take.tail)) ?_)|apply Picks.drop));done))
 clear hS;refine Run.while (fun z:Nat × Value × List (Msg × Value)=>[(2,pP b2),(3,pP b3),(19,.slice qm ms.length cm),(20,pI ms.length),(21,pI z.1)])
  (fun z w=>z.1≤ms.length∧z.2.2.map (·.1)=p.msgs.take z.1 ∧
    St we ρ (Vec 137 2 z.2.1 z.1 ((msOf z.2.2).flatMap msgL)::Row b3 [.string p.name,.slice qa p.pre0.length ca,.slice qb p.pre1.length cb,z.2.1] 84::Each tokI z.2.2::Vec 3 1 (.slice qa p.pre0.length ca) p.pre0.length (p.pre0.flatMap intL)::Vec 3 1 (.slice qb p.pre1.length cb) p.pre1.length (p.pre1.flatMap intL)::Row b2 [.string ⟨#[]⟩,.slice none 0 0,.slice none 0 0,.slice none 0 0] 84 :: σ) w) (fun z=>ms.length - z.1)
  (0,.slice none 0 0,[]) ⟨Nat.zero_le _,by simp,hS2⟩ (by exact Sb) ?_
 clear hS2;rintro⟨i,nv,tl⟩ w ⟨hi,htl,hS⟩ ih;simp only at hi htl hS ih ⊢;obtain⟨nq,nc,rfl⟩:=zAG hS;by_cases hlt:i<ms.length
 · obtain⟨mb,off,cs,el,fr,m,tv,rfl,hmem,g1,g2,g3,g4,g5⟩:=zEm hlm hmr hlt
   have hmt:=ht m (List.mem_of_getElem? g4);obtain⟨qt,ct,rfl,-⟩:=g5.val;have kY:∀{σ:List HP} {w:World},St we ρ σ w→_:=fun hS=>zGf g5 (by omega) hS
   have hget:p.msgs.take (i+1)=p.msgs.take i++[m]:=by
    have h2:i<p.msgs.length:=by omega
    rw[List.take_succ_eq_append_getElem h2,(List.getElem?_eq_some_iff.1 g4).2]
   replace ih:=fun v tl w h1 h2=>ih (i+1,v,tl) w ⟨by simp only;omega,h1,h2⟩ (by simp only;omega)
   simp only[hget]at ih;repeat' first|(refine Ql ?_ (h:=by apply Still.loadAgg;rfl;rfl;rfl;exact Rd.ro hmem;exact g3;rfl))|apply Qs|apply Qr|(apply Rs<;>intro hc<;>try exact No)|apply Qn|refine Ql ?_|(refine Qa ?_;clear hS;intro b w1 hS)|(refine Qd ?_;clear hS;intro w1 hS)|refine Qt ?_|apply Qk|apply Qb
   obtain⟨b5,hb5⟩:∃x,x=b:=⟨_,rfl⟩
   subst hb5;have hS2:St we ρ (Row b5 [pI m.who,.slice qt m.t.length ct] 137::Vec 137 2 (.slice nq i nc) i ((msOf tl).flatMap msgL)::Row b3 [.string p.name,.slice qa p.pre0.length ca,.slice qb p.pre1.length cb,.slice nq i nc] 84::Each tokI tl::Vec 3 1 (.slice qa p.pre0.length ca) p.pre0.length (p.pre0.flatMap intL)::Vec 3 1 (.slice qb p.pre1.length cb) p.pre1.length (p.pre1.flatMap intL)::Row b2 [.string ⟨#[]⟩,.slice none 0 0,.slice none 0 0,.slice none 0 0] 84 :: σ) _:=hS.pk;clear hS;have hS:=hS2;clear hS2;refine(Run.regionH_cut (fun a:(Option Addr × Nat) × (Option Addr × Nat)=>tokI (m,.slice a.1.1 m.t.length a.1.2)::Each tokI tl::Vec 137 2 (.slice a.2.1 (i+1) a.2.2) (i+1) ((msOf tl).flatMap msgL++[pI m.who,.slice a.1.1 m.t.length a.1.2]) ::
    Row b3 [.string p.name,.slice qa p.pre0.length ca,.slice qb p.pre1.length cb,.slice a.2.1 (i+1) a.2.2] 84::Vec 3 1 (.slice qa p.pre0.length ca) p.pre0.length (p.pre0.flatMap intL)::Vec 3 1 (.slice qb p.pre1.length cb) p.pre1.length (p.pre1.flatMap intL)::Row b2 [.string ⟨#[]⟩,.slice none 0 0,.slice none 0 0,.slice none 0 0] 84 :: σ)
    (fun _=>[(2,pP b2),(3,pP b3),(19,.slice (some ⟨mb,off,none⟩) ms.length cm),(20,pI ms.length),(21,pI i)])
    hS (.cons_cons _ (.cons _ (.cons _ (List.Sublist.refl _)))) (by rfl) (by rfl) (by rfl) ?_ ?_)
   · clear hS
     intro w1 hS;refine RH.relist (listed':=bm 12 0) (by kernel_rfl) ?_;repeat' first|refine Yl 0 0 ?_|refine Yl 1 2 ?_|refine Yl 5 3 ?_|refine Yl 13 4 ?_|refine Yl 29 5 ?_|refine Yt 127 7 ?_|refine Yl 1023 10 ?_|refine Yt 125 7 ?_|refine Om (Xh ?_)|(refine Oc 95 (c:=kY hS) (k':=?_);clear hS;intro v w1 hS;obtain⟨yq,yc,rfl⟩:=zAG hS;refine Xh ?_)|(refine Og ?_;clear hS;intro b w1 hS;refine Xh ?_)|(apply OP.append (size:=2) (bytes:=32) (k:=1) (news:=[pI m.who,.slice yq m.t.length yc]) hS;rfl;rfl;rfl;rfl;rfl;rfl;rfl;rfl;exact(by omega);exact An;(exact Rd.any);rfl;rfl;exact(by intro v hv;simp at hv;rcases hv with rfl|rfl<;>rfl);(exact(by unfold maxLen;omega));(exact(by omega));rfl;clear hS;intro v2 w1 hS;obtain⟨pk2,capk2,rfl⟩:=zAG hS;refine Xh ?_)|(refine Od ?_;clear hS;intro w1 hS;refine Xh ?_)|refine Jo ?_|refine Zb 61 1 6 ?_ ?_|refine Za 63 6 ?_|refine Za 255 8 ?_|refine Za 511 9 ?_|refine Za 2047 11 ?_|refine Zb 253 1 8 ?_ ?_|refine Za 509 1 ?_|(refine Yd 4095 ?_;exact⟨((yq,yc),(pk2,capk2)),(by exact Sb),hS.pk⟩)
   clear hS;rintro⟨⟨yq,yc⟩,zq,zc⟩ w1 hS;simp only at hS ⊢;have hS2:=zHq hS;clear hS;have hS:=hS2;clear hS2;repeat' first|apply Qr|apply Qn|refine Ql ?_|apply Qi
   have hfl:(msOf (tl++[(m,Value.slice yq m.t.length yc)])).flatMap msgL=(msOf tl).flatMap msgL++[pI m.who,.slice yq m.t.length yc]:=by unfold msOf;rw[List.map_append,List.flatMap_append];rfl
   refine Run.weaken (e':=[(2,pP b2),(3,pP b3),(19,.slice (some ⟨mb,off,none⟩) ms.length cm),(20,pI ms.length),(21,pI ((i+1:Nat):Int))]) (by exact Sb) (ih (.slice zq (i+1) zc) (tl++[(m,.slice yq m.t.length yc)]) _ (by rw[List.map_append,htl];rfl) ?_);rw[hfl];exact hS.pk
 · obtain rfl:i=ms.length:=by omega
   rw[hlen,List.take_length]at htl;repeat' first|(refine Ql ?_ (h:=by apply Still.loadAgg (m:=4);rfl;rfl;rfl;(exact Rd.any);rfl;rfl))|apply Qs|apply Qr|(apply Rs<;>intro hc<;>try exact No)|apply Qn|refine Ql ?_|(refine Qd ?_;clear hS;intro w1 hS)|refine Qf ?_|refine Qe ?_
   refine Qw Tryz.func236 ?_;rw[hlen]at hS;exact⟨qa,ca,qb,cb,nq,nc,tl,by rw[← hlen];rfl,htl,hS.pk⟩
end
def msgZ:Msg:=⟨0,[]⟩
def pskP (p:Pat)(n:Int):Pat × Int :=
 if zBS p=false then(.z,1)
 else if n<0∨(p.msgs.length:Int)<n∨12≤(p.msgs.getD (n - 1).toNat msgZ).t.length then(.z,13)
 else({ p with msgs:=p.msgs.set (n - 1).toNat ⟨(p.msgs.getD (n - 1).toNat msgZ).who,if n=0 then 7::(p.msgs.getD (n - 1).toNat msgZ).t else(p.msgs.getD (n - 1).toNat msgZ).t++[7]⟩ },0)
theorem zK0 {spare:List Value}{v:Value}:∀{ms:List (Int × Value)} {i:Nat} {x:Int × Value},ms[i]? = some x→(ms.flatMap msgL++spare)[i*2+1]? = some x.2∧(ms.flatMap msgL++spare).take (i*2+1)++[v]++(ms.flatMap msgL++spare).drop (i*2+1+1)=(ms.set i (x.1,v)).flatMap msgL++spare
 | [],i,x,h=>by simp at h
 | y::ms,0,x,h=>by
   obtain rfl:y=x:=by simpa using h
   exact⟨rfl,rfl⟩
 | y::ms,i+1,x,h=>by
   obtain⟨h1,h2⟩:=zK0 (spare:=spare) (v:=v) (ms:=ms) (i:=i) (x:=x) (by simpa using h);rw[show(i+1)*2+1=(i*2+1)+2 by omega];refine⟨?_,?_⟩
   · show(msgL y++ms.flatMap msgL++spare)[i*2+1+2]? = _
     exact h1
   · have e:((y::ms).set (i+1) (x.1,v)).flatMap msgL++spare=msgL y++((ms.set i (x.1,v)).flatMap msgL++spare):=by
      rw[List.set_cons_succ,List.flatMap_cons,List.append_assoc]
     rw[e,← h2];show(msgL y++ms.flatMap msgL++spare).take (i*2+1+2)++[v]++(msgL y++ms.flatMap msgL++spare).drop (i*2+1+2+1)=_;rfl
theorem zRg {ρ:List (Nat × Obj)}{v:Value}{m':Msg}(hs:Sl ρ intL 1 v m'.t):∀{tl:List (Msg × Value)} {i:Nat},(∀x∈tl.eraseIdx i,Sl ρ intL 1 x.2 x.1.t)→MsR ρ ((msOf tl).set i (m'.who,v)) ((tl.map (·.1)).set i m')
 | [],i,_=>.nil
 | x::tl,0,h=>.cons hs (zRh fun y hy=>h y (by simpa using hy))
 | x::tl,i+1,h=>.cons (h x (by simp)) (zRg hs fun y hy=>h y (by simp[hy]))
section
variable {we w:World}{ρ:List (Nat × Obj)}{σ F:List HP}{v:Value}
theorem zPY {p:Pat}{n:Int}(hs:p.name.size≤100)(hn : -100≤n∧n≤100)(hp:PatR ρ v p)(hS:St we ρ σ w) :
 Cl Tryz.prog 188 [v,pI n] w fun v w'=>∃pv ρ',v = .tuple #[pv,pI (pskP p n).2]∧Over we ρ ρ'∧PatR ρ' pv (pskP p n).1∧St we ρ' σ w':=by
 have kR:∀{σ:List HP} {w:World},St we ρ σ w→_:=fun hS=>zCD hs hp hS
 obtain⟨at_,hat⟩:∃k:Nat,(n - 1).toNat=k:=⟨_,rfl⟩
 have hmax:(if 0>n - 1 then 0 else n - 1)=(at_:Int):=by split<;>omega
 have hp0:=hp;obtain⟨hl0,hl1,hlm,hmr⟩:=hp;rename_i v0 v1 vm ms;have hlen:=hmr.length;obtain⟨q0,c0,rfl,-⟩:=hl0.val;obtain⟨q1,c1,rfl,-⟩:=hl1.val;obtain⟨qm,cm,rfl,-⟩:=hlm.val;unfold pskP;cases hr:zBS p
 · rw[hr]at kR
   rw[if_pos rfl];refine Run.calls2 (n:=59) Tryz.func188 rfl rfl rfl ?_;repeat' first|(refine Qv 235 (kR hS) ?_;clear hS;intro w1 hS)|apply Qs|apply Qr|apply Qn|refine Ql ?_|(refine Qx ?_;clear hS;intro b w1 hS)|(refine Qa ?_;clear hS;intro b w1 hS)|(refine Qd ?_;clear hS;intro w1 hS)|refine Qt ?_
   refine Qw Tryz.func188 ?_;exact⟨.agg #[.string ⟨#[]⟩,.slice none 0 0,.slice none 0 0,.slice none 0 0],ρ,rfl,Over.refl _ _,patZ,hS.pk⟩
 · rw[hr]at kR
   rw[if_neg (by decide),hat];obtain⟨p1,p2,p3,p4,p5,p6,p7⟩:=zAs hr;obtain⟨p8,p9⟩:=zCN hr;have hpos:0<p.msgs.length:=List.length_pos_iff.2 p3;by_cases hc1:n<0∨(p.msgs.length:Int)<n
   · rw[if_pos (by rcases hc1 with h|h;exact .inl h;exact .inr (.inl h))]
     refine Run.calls2 (n:=59) Tryz.func188 rfl rfl rfl ?_;repeat' first|(refine Qv 235 (kR hS) ?_;clear hS;intro w1 hS)|(refine Ql ?_ (h:=by apply Still.maxI;rfl;rfl;exact hmax))|apply Qs|apply Qr|(apply Rs<;>intro hc<;>try exact No)|apply Qn|refine Ql ?_|(refine Qx ?_;clear hS;intro b w1 hS)|(refine Qa ?_;clear hS;intro b w1 hS)|(refine Qd ?_;clear hS;intro w1 hS)|refine Qy ?_|refine Qz ?_|refine Qt ?_|refine Qf ?_|apply Qk
     all_goals
      refine Qw Tryz.func188 ?_;exact⟨.agg #[.string ⟨#[]⟩,.slice none 0 0,.slice none 0 0,.slice none 0 0],ρ,rfl,Over.refl _ _,patZ,hS.pk⟩
   · have hlt:at_<ms.length:=by omega
     obtain⟨mb,off,cs,el,fr,m,tv,rfl,hmem,g1,g2,g3,g4,g5⟩:=zEm hlm hmr hlt;obtain⟨qt,ct,rfl,-⟩:=g5.val;have hgd:p.msgs.getD at_ msgZ=m:=by rw[List.getD_eq_getElem?_getD,g4];rfl
     rw[hgd];have hmm:=p5 m (List.mem_of_getElem? g4);by_cases hc2:12≤m.t.length
     · rw[if_pos (.inr (.inr hc2))]
       refine Run.calls2 (n:=59) Tryz.func188 rfl rfl rfl ?_;repeat' first|(refine Qv 235 (kR hS) ?_;clear hS;intro w1 hS)|(refine Ql ?_ (h:=by apply Still.maxI;rfl;rfl;exact hmax))|(refine Ql ?_ (h:=by apply Still.load;rfl;rfl;exact Rd.ro hmem;exact g2))|apply Qs|apply Qr|(apply Rs<;>intro hc<;>try exact No)|apply Qn|refine Ql ?_|(refine Qx ?_;clear hS;intro b w1 hS)|(refine Qa ?_;clear hS;intro b w1 hS)|(refine Qd ?_;clear hS;intro w1 hS)|refine Qy ?_|refine Qt ?_|refine Qf ?_|apply Qk
       all_goals
        refine Qw Tryz.func188 ?_;exact⟨.agg #[.string ⟨#[]⟩,.slice none 0 0,.slice none 0 0,.slice none 0 0],ρ,rfl,Over.refl _ _,patZ,hS.pk⟩
     · rw[if_neg (by omega)]
       have kO:∀{σ:List HP} {w:World},St we ρ σ w→_:=fun hS=>zLu (by omega) (by omega) (by omega) (fun m hm=>by have:=(p5 m hm).2.2.1;omega) hp0 hS
       refine Run.calls2 (n:=59) Tryz.func188 rfl rfl rfl ?_;repeat' first|(refine Qv 235 (kR hS) ?_;clear hS;intro w1 hS)|(refine Qc 236 (c:=kO hS) (k':=?_);clear hS;rintro v w1 ⟨z0,d0,z1,d1,zm,dm,tl,rfl,htl,hS⟩)|(refine Ql ?_ (h:=by apply Still.maxI;rfl;rfl;exact hmax))|(refine Ql ?_ (h:=by apply Still.load;rfl;rfl;exact Rd.ro hmem;exact g2))|apply Qs|apply Qr|(apply Rs<;>intro hc<;>try exact No)|apply Qn|refine Ql ?_|(refine Qx ?_;clear hS;intro b w1 hS)|(refine Qa ?_;clear hS;intro b w1 hS)|(refine Qd ?_;clear hS;intro w1 hS)|refine Qy ?_|refine Qf ?_|apply Qk
       rename_i b2 y1 y2 y3 hx1 hx2 y4;obtain⟨b4,hb4⟩:∃x,x=b:=⟨_,rfl⟩
       subst hb4;obtain⟨ρ2,o2,s2,hT⟩:=zAH zAZ hS;clear hS;obtain⟨ρ3,o3,s3,hS⟩:=zAH zAZ hT;clear hT;obtain⟨hml,⟨-,hz,-,-⟩|⟨g,cap,spare,hsl,e1,e2,e3,hS2⟩⟩:=zBP hS
       · omega
       simp only[Value.slice.injEq,true_and]at hsl;obtain⟨rfl,rfl⟩:=hsl;clear hS;obtain⟨x,hx⟩:∃x,tl[at_]? = some x:=by
        have hl:at_<tl.length:=by
         have:=congrArg List.length htl;rw[List.length_map]at this;omega
        exact⟨_,List.getElem?_eq_getElem hl⟩
       have hxm:x.1=m:=by
        have h1:=congrArg (fun l:List Msg=>l[at_]?) htl;simp only[List.getElem?_map,hx,Option.map_some,g4]at h1;exact Option.some.inj h1
       have hmx:(msOf tl)[at_]? = some (m.who,x.2):=by unfold msOf;rw[List.getElem?_map,hx,← hxm];rfl
       have hfl:((msOf tl).flatMap msgL).length=p.msgs.length*2:=hml;have hble:Nat.ble (at_*2+1+1) ((msOf tl).flatMap msgL++spare).length=true:=by
        rw[Nat.ble_eq,List.length_append,hfl];omega
       have hcell:((msOf tl).flatMap msgL++spare)[at_*2+1]? = some x.2:=by
        exact(zK0 (spare:=spare) (v:=x.2) hmx).1
       have hset:∀v:Value,((msOf tl).flatMap msgL++spare).take (at_*2+1)++[v]++((msOf tl).flatMap msgL++spare).drop (at_*2+1+1)=((msOf tl).set at_ (m.who,v)).flatMap msgL++spare:=fun v=>by
        exact(zK0 hmx).2
       have hflen:∀v:Value,(((msOf tl).set at_ (m.who,v)).flatMap msgL).length=p.msgs.length*2:=fun v=>by
        rw[zFS zCQ,List.length_set];rw[zFS zCQ]at hfl;omega
       have hsetl:∀v:Value,((msOf tl).set at_ (m.who,v)).length=p.msgs.length:=fun v=>by
        rw[List.length_set];unfold msOf;rw[List.length_map,← htl,List.length_map]
       have hS3:=zEw (f:=tokI) hx (hS2.take (A:=Each tokI tl) An);clear hS2;generalize hflat:(msOf tl).flatMap msgL++spare=flat at hble hcell hset hS3;obtain⟨xm,xv⟩:=x;simp only at hxm hcell hmx;subst hxm;obtain⟨xq,xc,rfl⟩:=zAG (show St we ρ3 (Vec 3 1 xv xm.t.length (xm.t.flatMap intL)::_) _ from hS3);have hfin:∀{T':List Int} {v':Value} {w':World},St we ρ3 (Vec 3 1 v' T'.length (T'.flatMap intL)::Row g (((msOf tl).set at_ (xm.who,v')).flatMap msgL++spare) 137::Each tokI (tl.eraseIdx at_) :: σ) w' →
        ∃ ρ',Over we ρ ρ'∧PatR ρ' (.agg #[.string p.name,.slice z0 p.pre0.length d0,.slice z1 p.pre1.length d1,.slice (some ⟨g,0,none⟩) p.msgs.length dm]) { p with msgs:=p.msgs.set at_ ⟨xm.who,T'⟩ }∧St we ρ' σ w':=by
        intro T' v' w' h;obtain⟨ρ4,o4,s4,h4⟩:=zAH zAZ h;have h5:=zBF (size:=2) (m:=p.msgs.length) (xs:=((msOf tl).set at_ (xm.who,v')).flatMap msgL) h4 e1 e2 (by rw[List.length_append,hflen,e3];omega) (List.take_left' (hflen v'));rw[← hsetl v']at h5;obtain⟨ρ5,o5,s5,h6⟩:=zAH zCQ h5;obtain⟨ρ6,o6,s6,h7⟩:=zFr h6;rw[hsetl v']at s5;refine⟨ρ6,o2.trans (o3.trans (o4.trans (o5.trans o6))),?_,h7⟩;have hr6:=zRg (m':=⟨xm.who,T'⟩) (s4.mono (o5.trans o6).sub) s6;rw[htl]at hr6;refine PatR.mk (p:={ p with msgs:=p.msgs.set at_ ⟨xm.who,T'⟩ }) (s2.mono (o3.trans (o4.trans (o5.trans o6))).sub) (s3.mono (o4.trans (o5.trans o6)).sub) ?_ hr6;exact s5.mono o6.sub
       by_cases hn0:n=0
       · rw[if_pos hn0]
         obtain⟨ρ4,o4,s4,hT4⟩:=zAH (l:=xm.t) zAZ (show St we ρ3 (Vec 3 1 (.slice xq xm.t.length xc) xm.t.length (xm.t.flatMap intL)::_) _ from hS3);clear hS3;have hS:=hT4;clear hT4;repeat' first|(refine Ql ?_ (h:=by apply Still.load;rfl;rfl;(exact Rd.any);exact hcell))|(apply RO.op;apply OP.appendSl (size:=1) (bytes:=8) (m:=1) (xs:=[pI 7]) (zBF (size:=1) (m:=1) (cap:=1) (xs:=[pI 7]) (l:=[pI 7]) hS (Nat.le_refl _) (by unfold maxLen;omega) rfl rfl) s4 (fun _=>rfl) zMD;rfl;rfl;rfl;rfl;rfl;rfl;rfl;rfl;exact(by omega);exact An;exact(by unfold maxLen;omega);exact(by omega);rfl;clear hS;intro v2 w1 hS;obtain⟨pk2,capk2,rfl⟩:=zAG hS)|(apply RO.op;apply OP.store (l:=flat) hS;rfl;rfl;rfl;rfl;rfl;exact An;exact hble;exact hset _;clear hS;intro w1 hS)|apply Qs|apply Qr|(apply Rs<;>intro hc<;>try exact No)|apply Qn|refine Ql ?_|(refine Qd ?_;clear hS;intro w1 hS)|(refine Qg ?_;clear hS;intro b w1 hS)|refine Qt ?_
         refine Qw Tryz.func188 ?_;rw[Nat.add_comm]at hS;obtain⟨ρ5,o5,p5',h5⟩:=hfin (T':=7::xm.t) (o4.back hS.pk);exact⟨_,ρ5,rfl,o5,p5',h5⟩
       · rw[if_neg hn0]
         have hS:St we ρ3 (Vec 3 1 (.slice xq xm.t.length xc) xm.t.length (xm.t.flatMap intL)::_) _:=hS3;clear hS3;repeat' first|(refine Ql ?_ (h:=by apply Still.load;rfl;rfl;(exact Rd.any);exact hcell))|(apply RO.op;apply OP.append (size:=1) (bytes:=8) (k:=1) (m:=xm.t.length) (xs:=xm.t.flatMap intL) (news:=[pI 7]) hS;rfl;rfl;rfl;rfl;rfl;rfl;rfl;rfl;exact(by omega);exact An;(exact Rd.any);rfl;rfl;exact(by intro v hv;simp at hv;subst hv;rfl);(exact(by unfold maxLen;omega));(exact(by omega));rfl;clear hS;intro v2 w1 hS;obtain⟨pk2,capk2,rfl⟩:=zAG hS)|(apply RO.op;apply OP.store (l:=flat) hS;rfl;rfl;rfl;rfl;rfl;exact An;exact hble;exact hset _;clear hS;intro w1 hS)|apply Qs|apply Qr|(apply Rs<;>intro hc<;>try exact No)|apply Qn|refine Ql ?_|(refine Qd ?_;clear hS;intro w1 hS)|(refine Qg ?_;clear hS;intro b w1 hS)|refine Qf ?_
         refine Qw Tryz.func188 ?_;have hl1:(xm.t++[(7:Int)]).length=xm.t.length+1:=by simp
         have hl2:(xm.t++[(7:Int)]).flatMap intL=xm.t.flatMap intL++[pI 7]:=by rw[List.flatMap_append];rfl
         obtain⟨ρ5,o5,p5',h5⟩:=hfin (T':=xm.t++[7]) (by rw[hl1,hl2];exact hS.pk);exact⟨_,ρ5,rfl,o5,p5',h5⟩
end
section
variable {P:Program}{n:Nat}{e:Env}{ty:TypeId}{x y:Operand}
theorem Still.sliceEnd {t el:TypeId}{b off len cap m:Nat}{q:IntKind}{i:Int}{S:World→Prop}(hx:ev e x=some (.slice (some ⟨b,off,none⟩) len cap))(hy:ev e y=some (.int q i))(ht:zEv P t=some el)(hs:zDm P el=some m)
 (h0:0≤i) (h1:i≤len) (h2:i.toNat=cap) {l:Nat} (hl:len - i.toNat=l):Still P n e S (.slice t x (some y) none none) ty (.slice (some ⟨b,off,none⟩) l 0):=Still.mk fun a w ha _ d pos aft g=>by
 subst hl;simp only[execOp,ha.ev hx,Option.map_some,Option.map_none,ha.ev hy,Instr.sliceAt,Instr.slice,Sem.run_bind,run_underlying (zBi ht),Result.andThen_ok,Instr.sliceBounds,Instr.sliceBound,asIntOf,Sem.run_pure];simp[h0,h1,h2,zBZ hs]
end
def zLv (t:Int):Bool:=decide (2<t)
def zJH (p:Pat):Pat:=⟨p.name,(p.msgs.getD 0 msgZ).t,p.pre1,p.msgs.drop 1⟩
def zCe (p:Pat):Pat × Int :=
 if zBS p=false then(.z,1)
 else if(p.msgs.getD 0 msgZ).who≠0∨(p.msgs.getD 0 msgZ).t.any zLv=true∨0<p.pre0.length∨zBS (zJH p)=false then(.z,13) else(zJH p,0)
section
variable {we w:World}{ρ:List (Nat × Obj)}{σ F:List HP}{v:Value}
theorem zQD {x:Int}(hS:St we ρ σ w):Cl Tryz.prog 237 [pI x] w fun v w'=>v = .bool (zLv x)∧St we ρ σ w':=by
 unfold zLv;refine Run.calls1 (n:=5) Tryz.func237 rfl rfl rfl ?_;repeat' first|apply Qs|apply Qr|(apply Rs<;>intro hc<;>try exact No)|apply Qn|refine Ql ?_
 all_goals
  refine Qw Tryz.func237 ?_;exact⟨by simp_all [tup],hS⟩
theorem zJK {p:Pat}(hs:p.name.size≤100)(hp:PatR ρ v p)(hS:St we ρ σ w) :
 Cl Tryz.prog 186 [v] w fun v w'=>∃pv ρ',v = .tuple #[pv,pI (zCe p).2]∧Over we ρ ρ'∧PatR ρ' pv (zCe p).1∧St we ρ' σ w':=by
 have kR:∀{σ:List HP} {w:World},St we ρ σ w→_:=fun hS=>zCD hs hp hS
 have hp0:=hp;obtain⟨hl0,hl1,hlm,hmr⟩:=hp;rename_i v0 v1 vm ms;have hlen:=hmr.length;obtain⟨q0,c0,rfl,-⟩:=hl0.val;obtain⟨q1,c1,rfl,-⟩:=hl1.val;obtain⟨qm,cm,rfl,-⟩:=hlm.val;unfold zCe;cases hr:zBS p
 · rw[hr]at kR
   rw[if_pos rfl];refine Run.calls1 (n:=52) Tryz.func186 rfl rfl rfl ?_;repeat' first|(refine Qv 235 (kR hS) ?_;clear hS;intro w1 hS)|apply Qs|apply Qr|apply Qn|refine Ql ?_|(refine Qx ?_;clear hS;intro b w1 hS)|(refine Qa ?_;clear hS;intro b w1 hS)|(refine Qd ?_;clear hS;intro w1 hS)|refine Qt ?_
   refine Qw Tryz.func186 ?_;exact⟨.agg #[.string ⟨#[]⟩,.slice none 0 0,.slice none 0 0,.slice none 0 0],ρ,rfl,Over.refl _ _,patZ,hS.pk⟩
 · rw[hr]at kR
   rw[if_neg (by decide)];obtain⟨p1,p2,p3,p4,p5,p6,p7⟩:=zAs hr;obtain⟨p8,p9⟩:=zCN hr;have hpos:0<p.msgs.length:=List.length_pos_iff.2 p3;have kO:∀{σ:List HP} {w:World},St we ρ σ w→_:=fun hS=>zLu (by omega) (by omega) (by omega) (fun m hm=>by have:=(p5 m hm).2.2.1;omega) hp0 hS
   refine Run.calls1 (n:=52) Tryz.func186 rfl rfl rfl ?_;repeat' first|(refine Qv 235 (kR hS) ?_;clear hS;intro w1 hS)|(refine Qc 236 (c:=kO hS) (k':=?_);clear hS;rintro v w1 ⟨z0,d0,z1,d1,zm,dm,tl,rfl,htl,hS⟩)|apply Qs|apply Qr|apply Qn|refine Ql ?_|(refine Qx ?_;clear hS;intro b w1 hS)|(refine Qa ?_;clear hS;intro b w1 hS)|(refine Qd ?_;clear hS;intro w1 hS)|refine Qf ?_|apply Qk
   obtain⟨b2,hb2⟩:∃x,x=b:=⟨_,rfl⟩
   subst hb2;obtain⟨b1,hb1⟩:∃x,x=b:=⟨_,rfl⟩
   subst hb1;obtain⟨ρ2,o2,s2,hT⟩:=zAH zAZ hS;clear hS;obtain⟨ρ3,o3,s3,hS⟩:=zAH zAZ hT;clear hT;have hln:(msOf tl).length=p.msgs.length:=by unfold msOf;rw[List.length_map,← htl,List.length_map]
   rw[← hln]at hS;obtain⟨ρ4,o4,s4,hT⟩:=zAH zCQ hS;clear hS;obtain⟨ρ5,o5,s5,hS⟩:=zFr (hT.take (A:=Each tokI tl) An);clear hT;rw[hln]at hS;have r0:=s2.mono (o3.trans (o4.trans o5)).sub;have r1:=s3.mono (o4.trans o5).sub;have rm:=s4.mono o5.sub;have ov:Over we ρ ρ5:=o2.trans (o3.trans (o4.trans o5));clear s2 s3 s4 kR kO;obtain⟨m,l,hml⟩:∃m l,p.msgs=m::l:=by
    cases hpm:p.msgs with
    | nil=>exact absurd hpm p3
    | cons m l=>exact⟨m,l,rfl⟩
   obtain⟨x,tl',hxl⟩:∃x tl',tl=x::tl':=by
    cases tl with
    | nil=>rw[hml]at htl;simp at htl
    | cons x tl'=>exact⟨x,tl',rfl⟩
   subst hxl;obtain⟨xm,xv⟩:=x;have hxm:xm=m:=by rw[hml]at htl;exact(List.cons.inj htl).1
   subst hxm;have hsx:Sl ρ5 intL 1 xv xm.t:=s5 (xm,xv) (.head _);have hmr6:=zRh fun y hy=>s5 y (List.mem_cons_of_mem _ hy)
   have htl2:tl'.map (·.1)=l:=by rw[hml]at htl;exact(List.cons.inj htl).2
   rw[htl2]at hmr6;have hmsl:msOf ((xm,xv)::tl')=(xm.who,xv)::msOf tl':=rfl;rw[hmsl]at rm hln;obtain⟨xq,xc,rfl,-⟩:=hsx.val;have hgd:p.msgs.getD 0 msgZ=xm:=by rw[hml];rfl
   have hdr:p.msgs.drop 1=l:=by rw[hml];rfl
   obtain⟨b0,o0,cs0,e0,f0,rfl,m0,hcell⟩:=rm.agg (i:=0) (by simp);have hcell2:(cs0.drop o0).take 2=[pI xm.who,.slice xq xm.t.length xc]:=by simpa[msgL]using hcell
   have hll:l.length=(msOf tl').length:=by rw[hml]at hln;simpa using hln.symm
   have hpl:p.msgs.length=(msOf tl').length+1:=by rw[← hln];rfl
   have hdm:(msOf tl').length+1≤dm∧dm≤maxLen:=by
    obtain⟨_,_,h1,h2,h3,_⟩:=rm.val;simp only[Value.slice.injEq]at h1;obtain⟨-,-,rfl⟩:=h1;exact⟨by simpa using h2,h3⟩
   obtain⟨tb,tc,htail,ksl⟩:∃tb tc,Sl ρ5 msgL 2 (.slice (some ⟨b0,tb,none⟩) (msOf tl').length tc) (msOf tl')∧∀{e:Env} {S:World→Prop} {ty:TypeId} {x y:Operand},ev e x=some (.slice (some ⟨b0,o0,none⟩) p.msgs.length dm)→ev e y=some (pI 1) →
    Still Tryz.prog 52 e S (.slice 82 x (some y) none none) ty (.slice (some ⟨b0,tb,none⟩) (msOf tl').length tc):=by
    rw[hpl];by_cases hd1:dm=1
    · have hz:(msOf tl')=[]:=List.eq_nil_of_length_eq_zero (by omega)
      refine⟨o0,0,?_,fun hx hy=>?_⟩
      · rw[hz]
        exact⟨⟨_,_,rfl,Nat.le_refl _,Nat.zero_le _,fun h=>by simp at h⟩⟩
      · exact Still.sliceEnd (el:=137) (m:=2) hx hy (by kernel_rfl) (by kernel_rfl) (by omega) (by omega) (by rw[hd1];rfl) rfl
    · refine⟨o0+2,dm - 1,zQy rm,fun hx hy=>?_⟩
      exact Still.sliceLo (el:=137) (m:=2) hx hy (by kernel_rfl) (by kernel_rfl) (by omega) (by omega) (by omega) rfl rfl rfl
   have hnx:PatR ρ5 (.agg #[.string p.name,.slice xq xm.t.length xc,.slice z1 p.pre1.length d1,.slice (some ⟨b0,tb,none⟩) (msOf tl').length tc]) (zJH p):=by
    have e:zJH p=⟨p.name,xm.t,p.pre1,l⟩:=by unfold zJH;rw[hgd,hdr]
    rw[e];exact PatR.mk (p:=⟨p.name,xm.t,p.pre1,l⟩) hsx r1 htail hmr6
   have kR2:∀{σ:List HP} {w:World},St we ρ5 σ w→_:=fun hS=>zCD (p:=zJH p) hs hnx hS
   have kC:∀{σ:List HP} {w:World},St we ρ5 σ w→_:=fun hS=>zCI (g:=237) (cs:=[]) zLv hsx rfl (fun x w hS=>zQD hS) hS
   rw[hgd];repeat' first|(refine Ql ?_ (h:=by apply Still.loadAgg (m:=2);rfl;rfl;rfl;exact Rd.ro m0;(first|exact hcell2|exact hcell);rfl))|apply Qs|apply Qr|apply Qn|refine Ql ?_|(refine Qa ?_;clear hS;intro b w1 hS)|(refine Qd ?_;clear hS;intro w1 hS)
   obtain⟨b4,hb4⟩:∃x,x=b:=⟨_,rfl⟩
   subst hb4;have hS2:St we ρ5 (Row b4 [pI xm.who,.slice xq xm.t.length xc] 137::Row b2 [.string ⟨#[]⟩,.slice none 0 0,.slice none 0 0,.slice none 0 0] 84::Row b1 [.string p.name,.slice z0 p.pre0.length d0,.slice z1 p.pre1.length d1,.slice (some ⟨b0,o0,none⟩) p.msgs.length dm] 84 :: σ) _:=hS.pk;clear hS;have hS:=hS2;clear hS2;refine(Run.regionH_cut (fun b6:Nat=>Row b6 [.string p.name,.slice xq xm.t.length xc,.slice z1 p.pre1.length d1,.slice (some ⟨b0,tb,none⟩) (msOf tl').length tc] 84::Row b4 [pI xm.who,.slice xq xm.t.length xc] 137::Row b2 [.string ⟨#[]⟩,.slice none 0 0,.slice none 0 0,.slice none 0 0] 84::Row b1 [.string p.name,.slice z0 p.pre0.length d0,.slice z1 p.pre1.length d1,.slice (some ⟨b0,o0,none⟩) p.msgs.length dm] 84 :: σ)
    (fun b6=>[(1,pP b1),(2,pP b2),(4,pP b4),(5,.func (.func 237) #[] #[]),(6,pP b6)])
    hS (List.Sublist.refl _) (by rfl) (by rfl) (by rfl) ?_ ?_)
   · clear hS
     intro w1 hS;refine RH.relist (listed':=bm 14 0) (by kernel_rfl) ?_;repeat' first|refine Yl 0 0 ?_|(refine Yt 1 1 ?_ (h:=by first|exact ksl rfl rfl|exact Still.an))|refine Yl 3 2 ?_|(refine Yt 7 3 ?_ (h:=by first|exact ksl rfl rfl|exact Still.an))|refine Yl 15 4 ?_|(refine Yt 31 5 ?_ (h:=by first|exact Sx|exact Still.any))|(refine Yt 63 6 ?_ (h:=by first|exact ksl rfl rfl|exact Still.an))|(refine Yt 127 7 ?_ (h:=by first|exact ksl rfl rfl|exact Still.any))|refine Yl 255 8 ?_|(refine Yt 511 9 ?_ (h:=by first|exact ksl rfl rfl|exact Still.an))|(refine Yt 1023 10 ?_ (h:=by first|exact ksl rfl rfl|exact Still.any))|(refine Yt 2047 11 ?_ (h:=by first|exact ksl rfl rfl|exact Still.any))|(refine Oa ?_;clear hS;intro b w1 hS;refine Xh ?_)|(refine Od ?_;clear hS;intro w1 hS;refine Xh ?_)|refine Jo ?_|refine Za 4095 12 ?_|refine Za 8191 13 ?_|(refine Yd 16383 ?_;exact⟨_,Sb,hS.pk⟩)
   clear hS;rintro b6 w1 hS;by_cases hC:xm.who≠0∨xm.t.any zLv=true∨0<p.pre0.length∨zBS (zJH p)=false
   · rw[if_pos hC]
     by_cases a1:xm.who=0<;>cases a2:xm.t.any zLv<;>by_cases a3:0<p.pre0.length<;>cases a4:zBS (zJH p);all_goals
      rw[a2]at kC hC;rw[a4]at kR2 hC
     all_goals first|(exfalso;rcases hC with h|h|h|h<;>first|exact h a1|exact Bool.noConfusion h|exact a3 h)|skip
     all_goals
      repeat' first|(refine Qv 38 (kC hS) ?_;clear hS;intro w1 hS)|(refine Qv 235 (kR2 hS) ?_;clear hS;intro w1 hS)|(refine Ql ?_ (h:=Sx))|apply Qs|apply Qr|(apply Rs<;>intro hc<;>try exact No)|apply Qn|refine Ql ?_|(refine Qd ?_;clear hS;intro w1 hS)|refine Qy ?_|refine Qz ?_|refine Qt ?_
     all_goals
      refine Qw Tryz.func186 ?_;exact⟨.agg #[.string ⟨#[]⟩,.slice none 0 0,.slice none 0 0,.slice none 0 0],ρ5,rfl,ov,patZ,hS.pk⟩
   · rw[if_neg hC]
     have a1:xm.who=0:=Decidable.byContradiction fun h=>hC (.inl h)
     have a2:xm.t.any zLv=false:=by
      cases h:xm.t.any zLv with
      | false=>rfl
      | true=>exact absurd (.inr (.inl h)) hC
     have a3:¬ 0<p.pre0.length:=fun h=>hC (.inr (.inr (.inl h)))
     have a4:zBS (zJH p)=true:=by
      cases h:zBS (zJH p)with
      | true=>rfl
      | false=>exact absurd (.inr (.inr (.inr h))) hC
     rw[a2]at kC;rw[a4]at kR2;repeat' first|(refine Qv 38 (kC hS) ?_;clear hS;intro w1 hS)|(refine Qv 235 (kR2 hS) ?_;clear hS;intro w1 hS)|(refine Ql ?_ (h:=Sx))|apply Qs|apply Qr|(apply Rs<;>intro hc<;>try exact No)|apply Qn|refine Ql ?_|(refine Qd ?_;clear hS;intro w1 hS)|refine Qy ?_|refine Qf ?_|apply Qk
     refine Qw Tryz.func186 ?_;exact⟨_,ρ5,rfl,ov,hnx,hS.pk⟩
end
end Go.Proofs.YtcikdogkkgefcaaGreatDoor
