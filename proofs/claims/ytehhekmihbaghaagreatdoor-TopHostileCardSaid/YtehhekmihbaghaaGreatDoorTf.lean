/-
  A small machine that reads a function of the program and reckons what a call of it comes to; what Go's library on the road comes to; the functions of the program, one by one. No conditions beyond each specification's own. (WHAT A ROW's READING OF AN ARGUMENT SAYS OF ITS CELLS, as th, A LAW's ROW: out of what the small machine says of the law's, THE SEAT's OWN WORLD: the door's heap, the pinned table laid, and so on.)
-/
import Derived.Test.YtehhekmihbaghaaGreatDoorTb
import Derived.ChangeArms
import Derived.OpenShut
import Derived.Lib.LaidTab
import Derived.Lib.ItoaMem
import Derived.Test.YtehhekmihbaghaaGreatDoorTe
import Derived.Test.YtehhekmihbaghaaGreatDoorRows
import Derived.ProofKit
import Derived.LaidMore
import Derived.LaidHandle
import Derived.Deep.DeepHandedRow
import Derived.Stop.Joined
import Derived.Test.YtehhekmihbaghaaGreatDoorTie
import Derived.Test.YtehhekmihbaghaaGreatDoorCards
import Derived.SevenTiedAt
import Derived.Deep.DeepWitnessRowRef
set_option linter.all false
set_option maxRecDepth 100000
namespace Go.FM
open Go
def agT (P:Program) (e:TypeId):Bool:=match P.underlying e with | some (.struct _)=>true | some (.array _ _)=>true | _=>false
def ysc (f:TypeId→Option (List Kd)) (cell:TypeId→Nat):Nat→List (TypeId × Nat)→Option (List Kd)
 | _,[]=>some []
 | off,(t,o) :: r=>match Nat.beq o off with
  | true=>match f t with
   | some ks=>match Nat.beq (cell t) ks.length with
    | true=>match ysc f cell (off+ks.length) r with
     | some ks'=>some (ks++ks')
     | none=>none
    | false=>none
   | none=>none
  | false=>none
def kdT (P:Program):Nat→TypeId→Option (List Kd)
 | 0,_=>none
 | n+1,t=>match P.underlying t with
  | some .bool=>some [.bool]
  | some (.int k)=>some [.int k]
  | some .string=>some [.str]
  | some (.slice e)=>match kdT P n e with
   | some ks=>match Nat.ble 1 (P.bytesOf e)&&(Nat.beq (P.cellsOf e) ks.length&&(Nat.ble 1 ks.length&&(agT P e||Nat.beq ks.length 1))) with
    | true=>some [.list (agT P e) ks]
    | false=>none
   | none=>none
  | some (.struct fs)=>match ysc (kdT P n) P.cellsOf 0 (fs.toList.map fun f=>(f.type,f.offset)) with
   | some ks=>match Nat.beq (P.cellsOf t) ks.length with | true=>some ks | false=>none
   | none=>none
  | some (.array m e)=>match ysc (kdT P n) P.cellsOf 0 ((List.range m).map fun i=>(e,i*P.cellsOf e)) with
   | some ks=>match Nat.beq (P.cellsOf t) ks.length with | true=>some ks | false=>none
   | none=>none
  | _=>none
def CellsK (w:World) (O:Nat→Prop):List Kd→List IV→List Value→Prop
 | [],[],[]=>True
 | k :: ks,x :: f,v :: cs=>Kd.Rel w O k x v∧CellsK w O ks f cs
 | _,_,_=>False
section
variable {w:World} {O:Nat→Prop}
theorem CellsK.append:∀ {ks:List Kd} {f:List IV} {cs:List Value} {ks':List Kd} {f':List IV} {cs':List Value},CellsK w O ks f cs→CellsK w O ks' f' cs'→CellsK w O (ks++ks') (f++f') (cs++cs')
 | [],[],[],_,_,_,_,h'=>h'
 | _ :: ks,_ :: f,_ :: cs,_,_,_,h,h'=>by
  simp only [CellsK] at h;simp only [v1u,CellsK];exact ⟨h.1,h.2.append h'⟩
 | [],_ :: _,_,_,_,_,h,_=>by simp [CellsK] at h
 | [],[],_ :: _,_,_,_,h,_=>by simp [CellsK] at h
 | _ :: _,[],_,_,_,_,h,_=>by simp [CellsK] at h
 | _ :: _,_ :: _,[],_,_,_,h,_=>by simp [CellsK] at h
theorem CellsK.get:∀ {ks:List Kd} {f:List IV} {cs:List Value},CellsK w O ks f cs→∀ (j:Nat) (k:Kd),ks[j]?=some k→∃ v,cs[j]?=some v∧Kd.Rel w O k (nth f j) v
 | [],_,_,_,j,k,h=>by simp at h
 | k :: ks,x :: f,v :: cs,h,j,k',hj=>by
  simp only [CellsK] at h;cases j with
  | zero=>
   simp only [v0s,v00] at hj;subst hj;exact ⟨v,rfl,by simpa only [nth] using h.1⟩
  | succ j=>
   obtain ⟨u,h1,h2⟩:=h.2.get j k' (by simpa using hj)
   exact ⟨u,by simpa using h1,by simpa only [nth] using h2⟩
 | _ :: _,[],_,h,_,_,_=>by simp [CellsK] at h
 | _ :: _,_ :: _,[],h,_,_,_=>by simp [CellsK] at h
theorem zy6 {α:Type} {Q:Nat→α→Prop}:∀ n,(∀ i,i < n→∃ x,Q i x)→∃ L:List α,L.length=n∧∀ i x,L[i]?=some x→Q i x
 | 0,_=>⟨[],rfl,fun i x h=>by simp at h⟩
 | n+1,h=>by
  obtain ⟨L,hl,hL⟩:=zy6 n (fun i hi=>h i (by omega))
  obtain ⟨x,hx⟩:=h n (by omega)
  refine ⟨L++[x],by simp [hl],fun i y hy=>?_⟩
  rw [v1q] at hy
  split at hy
  ·exact hL i y hy
  ·rename_i hi
   have:i - L.length=0:=by
    rcases v3k (i - L.length) with e | e
    ·exact e
    ·rw [v0t (by simp; omega)] at hy
     cases hy
   rw [this] at hy;simp only [v0s,v00] at hy;subst hy
   have:i=n:=by omega
   subst this;exact hx
end
theorem y3x {H:Type} {P:Program}:∀ {ts:List TypeId} {ds:List (DataW H)} {i:Nat} {t:TypeId} {d:DataW H},ts[i]?=some t→ds[i]?=some d→∀ y∈d.weights P t,y∈DataW.weightsEach P ts ds
 | [],_,i,_,_,h,_,_,_=>by simp at h
 | _ :: _,[],i,_,_,_,h,_,_=>by simp at h
 | t0 :: ts,d0 :: ds,0,t,d,h,h',y,hy=>by
  simp only [v0s,v00] at h h';subst h; subst h';simp only [DataW.weightsEach,v0o];exact .inl hy
 | t0 :: ts,d0 :: ds,i+1,t,d,h,h',y,hy=>by
  simp only [DataW.weightsEach,v0o];exact .inr (y3x (by simpa using h) (by simpa using h') y hy)
theorem y4r {H:Type} {P:Program} {e:TypeId}:∀ {ds:List (DataW H)} {d:DataW H},d∈ds→∀ y∈d.weights P e,y∈DataW.weightsAll P e ds
 | [],_,h,_,_=>by cases h
 | d0 :: ds,d,h,y,hy=>by
  simp only [DataW.weightsAll,v0o];rcases v17.1 h with rfl | h
  ·exact .inl hy
  ·exact .inr (y4r h y hy)
section
variable {H:Type} {enc:TypeId × Value→H} {P:Program} {w:World} {base:Nat} {sp:Nat→Bool} {held:Bool} {O:Nat→Prop}
theorem znw {f:TypeId→Option (List Kd)} {n:Nat} {cs:List Value}
  (ih:∀ (t:TypeId) (ks:List Kd) (cs:List Value) (d:DataW H) (p:List MemPlace),f t=some ks→DataW.trod enc P w base sp held n t cs=some (d,p)→(∀ y∈d.weights P t,y≤reachBytes)→∃ g,CellsK w O ks g cs) :
  ∀ (parts:List (TypeId × Nat)) (off:Nat) (ks:List Kd) (xs:List (DataW H × List MemPlace)),ysc f P.cellsOf off parts=some ks→xs.length=parts.length →
   (∀ (i:Nat) (t:TypeId) (o:Nat),parts[i]?=some (t,o)→DataW.trod enc P w base sp held n t ((cs.drop o).take (P.cellsOf t))=xs[i]?) →
   (∀ (i:Nat) (t:TypeId) (o:Nat) (x:DataW H × List MemPlace),parts[i]?=some (t,o)→xs[i]?=some x→∀ y∈x.1.weights P t,y≤reachBytes)→∃ g,CellsK w O ks g ((cs.drop off).take ks.length)
 | [],off,ks,xs,h,_,_,_=>by
  simp only [ysc,v00] at h;subst h;exact ⟨[],by simp only [v0i,List.take_zero,CellsK]⟩
 | (t,o) :: r,off,ks,[],h,hl,_,_=>by simp at hl
 | (t,o) :: r,off,ks,x :: xs,h,hl,ht,hw=>by
  simp only [ysc] at h
  split at h
  case h_2=>cases h
  rename_i ho;obtain rfl:=v2i ho
  split at h
  case h_2=>cases h
  rename_i k1 hk1
  split at h
  case h_2=>cases h
  rename_i hc;have hc:=v2i hc
  split at h
  case h_2=>cases h
  rename_i k2 hk2;simp only [v00] at h;subst h;have h0:=ht 0 t o rfl;simp only [v0s] at h0;obtain ⟨d,p⟩:=x;obtain ⟨g1,hg1⟩:=ih t k1 _ d p hk1 h0 (hw 0 t o (d,p) rfl rfl);obtain ⟨g2,hg2⟩:=znw ih r (o+k1.length) k2 xs hk2 (by simpa using hl) (fun i t' o' hi=>by simpa using ht (i+1) t' o' (by simpa using hi)) (fun i t' o' x hi hx=>hw (i+1) t' o' x (by simpa using hi) (by simpa using hx))
  refine ⟨g1++g2,?_⟩;rw [v08,List.take_add,v41];rw [hc] at hg1;exact hg1.append hg2
theorem yr2 {a:Addr} {v:Value} (h:w.cell? a=some v):a.spot=none∧a.block < w.heap.size:=by
 unfold World.cell? at h
 split at h
 ·rename_i c _ _ hc
  split at h
  ·cases h
  ·rename_i hs
   exact ⟨by simpa using hs,(Array.getElem?_eq_some_iff.1 hc).1⟩
 ·cases h
theorem y4g (hO:∀ b,¬ O b):∀ (n:Nat) (t:TypeId) (ks:List Kd) (fuel:Nat) (cs:List Value) (d:DataW H) (p:List MemPlace),kdT P n t=some ks →
  DataW.trod enc P w base sp held fuel t cs=some (d,p)→(∀ y∈d.weights P t,y≤reachBytes)→∃ g,CellsK w O ks g cs
 | 0,_,_,_,_,_,_,h,_,_=>by simp [kdT] at h
 | n+1,t,ks,fuel,cs,d,p,h,ht,hw=>by
  simp only [kdT] at h
  split at h
  ·rename_i hu
   simp only [v00] at h;subst h;obtain ⟨b,rfl,_⟩:=DataW.trod_bool hu ht;exact ⟨[.bool b],by simp only [CellsK,Kd.Rel,IV.toBool,and_self]⟩
  ·rename_i k hu
   simp only [v00] at h;subst h;obtain ⟨m,rfl,_,hm⟩:=DataW.trod_int hu ht;simp only [Lit.wf,v02,v07] at hm;exact ⟨[.int m],by simp only [CellsK,Kd.Rel,IV.toInt,v1c,v45]; exact hm⟩
  ·rename_i hu
   simp only [v00] at h;subst h;obtain ⟨s,rfl,hd,hs⟩:=DataW.trod_string hu ht;simp only [v06] at hd;refine ⟨[.str s],?_⟩;simp only [CellsK,Kd.Rel,IV.toStr,v1c,v45];rw [hd.1] at hw
   have:=hw s.data.toList.length (by simp [DataW.weights])
   have e:s.data.toList.length=s.size:=by rw [v19]; rfl
   rw [e] at this;unfold reachBytes at this;unfold strMax;omega
  ·rename_i e hu
   split at h
   case h_2=>cases h
   rename_i k1 hk1
   split at h
   case h_2=>cases h
   rename_i hc;simp only [v00] at h;subst h;simp only [v02,v2n] at hc;obtain ⟨hb,hce,hk0,hag⟩:=hc;have hb:=v04 hb;have hce:=v2i hce;have hk0:=v04 hk0;rcases DataW.trod_slice hu ht with ⟨rfl,_⟩ | ⟨a,len,cap,elems,rest,m,_,rfl,hx,_,hlc,hcap,hlen,hel,_⟩
   ·refine ⟨[.list []],?_⟩
    simp only [CellsK,Kd.Rel,IV.toList,v1c];exact ⟨none,0,rfl,v0a _,v0x _,v0x _,fun i y hi=>by simp at hi⟩
   ·simp only [v06] at hx
    obtain ⟨rfl,_⟩:=hx;simp only [DataW.weights,hu,v17,v0o] at hw;have hsz:len≤strMax:=by
     have:=hw _ (.inl rfl)
     rw [v14,hlen] at this;have h1:len*1≤(len+(rest.map (·.1)).length)*P.bytesOf e:=Nat.mul_le_mul (by omega) hb
     unfold reachBytes at this;unfold strMax;omega
    have hex:∀ i,i < len→∃ g:List IV,∃ ci,w.cells? base (a.add (i*k1.length)) k1.length=some ci∧CellsK w O k1 g ci:=by
     intro i hi;have h1:=hel i hi;have hi':i < elems.length:=by omega
     rw [v0h hi',hce] at h1;simp only [Option.bind_eq_some_iff] at h1;obtain ⟨ci,h2,h3⟩:=h1;obtain ⟨g,hg⟩:=y4g hO n e k1 m ci elems[i].1 elems[i].2 hk1 h3 (fun y hy=>hw y (.inr (.inl (y4r (v3g (v1x hi')) y hy))))
     exact ⟨g,ci,h2,hg⟩
    obtain ⟨L,hL,hLi⟩:=zy6 len hex;refine ⟨[.list (L.map fun g=>match agT P e with | true=>IV.agg g | false=>nth g 0)],?_⟩
    simp only [CellsK,Kd.Rel,IV.toList,v1c,v14,hL];refine ⟨some a,cap,rfl,hlc,hcap,hsz,fun i y hi=>?_⟩
    rw [v11,v1k] at hi;obtain ⟨g,hg,rfl⟩:=hi;obtain ⟨ci,hci,hgc⟩:=hLi i g hg;have hil:i < len:=by rw [← hL]; exact (List.getElem?_eq_some_iff.1 hg).1
    have cellAt:∀ j k,k1[j]?=some k→∃ u,w.cell? ((a.add (i*k1.length)).add j)=some u∧Kd.Rel w O k (nth g j) u:=by
     intro j k hk;obtain ⟨u,h1,h2⟩:=hgc.get j k hk;refine ⟨u,?_,h2⟩;have hj:j < k1.length:=(List.getElem?_eq_some_iff.1 hk).1;unfold World.cells? at hci
     split at hci
     ·obtain ⟨b,hb1,hb2⟩:=Lib.mapM_at hci j j (by simp [hj])
      rw [h1] at hb1;simp only [v00] at hb1;rw [hb2,hb1]
     ·cases hci
    have hspot:a.spot=none∧a.block < w.heap.size:=by
     obtain ⟨g0,hg0⟩:∃ g0,L[0]?=some g0:=⟨L[0]'(by omega),v0h (by omega)⟩
     obtain ⟨c0,hc0,hgc0⟩:=hLi 0 g0 hg0;obtain ⟨u,h1,_⟩:=hgc0.get 0 k1[0] (v0h (by omega))
     unfold World.cells? at hc0
     split at hc0
     ·obtain ⟨b,_,hb2⟩:=Lib.mapM_at hc0 0 0 (List.getElem?_range (show 0 < k1.length by omega))
      have:=yr2 hb2
      rw [Nat.zero_mul] at this
      simpa [Addr.add] using this
     ·cases hc0
    obtain ⟨ab,ao,asp⟩:=a;obtain ⟨hs1,hs2⟩:=hspot;simp only at hs1 hs2;subst hs1;refine ⟨ab,ao,rfl,hO ab,hs2,?_⟩;rw [Kd.RelAll_iff];intro j k hk;obtain ⟨u,h1,h2⟩:=cellAt j k hk;rw [Lib.add_plain,Lib.add_plain] at h1;rw [v0p];refine ⟨u,h1,?_⟩;cases hat:agT P e with
    | true=>
     show Kd.Rel w O k (nth g j) u;exact h2
    | false=>
     rw [hat] at hag;have h1l:k1.length=1:=v2i (by simpa using hag)
     have hj:j < k1.length:=(List.getElem?_eq_some_iff.1 hk).1
     have:j=0:=by omega
     subst this;exact h2
  ·rename_i fs hu
   split at h
   case h_2=>cases h
   rename_i k1 hk1
   split at h
   case h_2=>cases h
   rename_i hc;have hc:=v2i hc;simp only [v00] at h;subst h;obtain ⟨xs,m,_,hx,hcl,hxl,hall⟩:=DataW.trod_struct hu ht;simp only [v06] at hx;obtain ⟨rfl,_⟩:=hx;simp only [DataW.weights,hu] at hw;have key:=znw (enc:=enc) (P:=P) (w:=w) (base:=base) (sp:=sp) (held:=held) (O:=O) (f:=kdT P n) (n:=m) (cs:=cs) (fun t ks cs d p h1 h2 h3=>y4g hO n t ks m cs d p h1 h2 h3) (fs.toList.map fun f=>(f.type,f.offset)) 0 k1 xs hk1 (by simp [hxl]) (fun i t o hi=>by
     rw [v11,v1k] at hi;obtain ⟨f,hf,he⟩:=hi;simp only [v06] at he;obtain ⟨rfl,rfl⟩:=he;exact hall i f (by simpa using hf)) (fun i t o x hi hx y hy=>by
     rw [v11,v1k] at hi;obtain ⟨f,hf,he⟩:=hi;simp only [v06] at he;obtain ⟨rfl,rfl⟩:=he;exact hw y (y3x (i:=i) (by rw [v11,hf]; rfl) (by rw [v11,hx]; rfl) y hy))
   obtain ⟨g,hg⟩:=key;rw [v0z,v13 (by omega)] at hg
   exact ⟨g,hg⟩
  ·rename_i m0 e hu
   split at h
   case h_2=>cases h
   rename_i k1 hk1
   split at h
   case h_2=>cases h
   rename_i hc;have hc:=v2i hc;simp only [v00] at h;subst h;obtain ⟨xs,m,_,hx,hcl,hxl,hall⟩:=DataW.trod_array hu ht;simp only [v06] at hx;obtain ⟨rfl,_⟩:=hx;simp only [DataW.weights,hu] at hw;have key:=znw (enc:=enc) (P:=P) (w:=w) (base:=base) (sp:=sp) (held:=held) (O:=O) (f:=kdT P n) (n:=m) (cs:=cs) (fun t ks cs d p h1 h2 h3=>y4g hO n t ks m cs d p h1 h2 h3) ((List.range m0).map fun i=>(e,i*P.cellsOf e)) 0 k1 xs hk1 (by simp [hxl]) (fun i t o hi=>by
     rw [v11,v1k] at hi;obtain ⟨f,hf,he⟩:=hi;simp only [v06] at he;obtain ⟨rfl,rfl⟩:=he;have hfi:=List.getElem?_eq_some_iff.1 hf;obtain ⟨hl,he⟩:=hfi;rw [List.getElem_range] at he;subst he;exact hall i (by simpa using hl)) (fun i t o x hi hx y hy=>by
     rw [v11,v1k] at hi;obtain ⟨f,hf,he⟩:=hi;simp only [v06] at he;obtain ⟨rfl,rfl⟩:=he;exact hw y (y4r (v3g (v1r hx)) y hy))
   obtain ⟨g,hg⟩:=key;rw [v0z,v13 (by omega)] at hg
   exact ⟨g,hg⟩
  ·cases h
end
open Go Go.Proofs Go.RowKit Go.ChangeShapes Go.WideShapes
def vOf:Kd→IV→V
 | .int k,x=>.int k x.toInt
 | .bool,x=>.bool x.toBool
 | .str,x=>.str x.toStr
 | .list ag ks,x=>.list ag ks x.toList
theorem yrc {γ:Nat→Value} {o:Store} {w:World} {O:Nat→Prop} {k:Kd} {x:IV} {v:Value} (h:Kd.Rel w O k x v):VRel γ o w O (vOf k x) v:=by
 cases k with
 | int k=>simpa only [vOf,VRel,Kd.Rel] using h
 | bool=>simpa only [vOf,VRel,Kd.Rel] using h
 | str=>simpa only [vOf,VRel,Kd.Rel] using h
 | list ag ks=>
  simp only [vOf,VRel]
  simpa only [Kd.Rel,IV.toList] using h
theorem CellsK.len {w:World} {O:Nat→Prop}:∀ {ks:List Kd} {f:List IV} {cs:List Value},CellsK w O ks f cs→f.length=ks.length
 | [],[],[],_=>rfl
 | _ :: _,_ :: _,_ :: _,h=>by
  simp only [CellsK] at h;simp only [List.length_cons,h.2.len]
 | [],_ :: _,_,h=>by simp [CellsK] at h
 | [],[],_ :: _,h=>by simp [CellsK] at h
 | _ :: _,[],_,h=>by simp [CellsK] at h
 | _ :: _,_ :: _,[],h=>by simp [CellsK] at h
section
variable {H:Type} {enc:TypeId × Value→H} {P:Program} {W:World} {base b0:Nat} {sp:Nat→Bool} {held:Bool}
theorem yde {n:Nat} {t:TypeId} {k:Kd} {v:Value} {d:DataW H} {p:List MemPlace} (hk:kdT P n t=some [k]) (hu:agT P t=false) (hval:Value.okWide P W .any base t v)
  (h:DataW.Trod enc P W b0 sp held t v d p) (hw:∀ y∈d.weights P t,y≤reachBytes):∃ x:IV,VRel γ0 [] W O0 (vOf k x) v:=by
 obtain ⟨fuel,hf⟩:=h;obtain ⟨g,hg⟩:=y4g (O:=O0) yv2 n t [k] fuel _ d p hk hf hw;have hc:v.cells.toList=[v]:=by
  cases v with
  | agg cs=>
   exfalso;unfold agT at hu;unfold Value.okWide at hval
   split at hu
   ·cases hu
   ·cases hu
   ·rename_i h1 h2
    split at hval
    ·rename_i hh; exact h1 _ hh
    ·rename_i hh; exact h2 _ _ hh
    ·unfold Cell.okWide Cell.ok at hval
     split at hval <;> first | (split at hval <;> simp_all) | simp_all
  | _=>rfl
 rw [hc] at hg
 match g,hg with
 | [x],hg=>
  simp only [CellsK,and_true] at hg;exact ⟨x,yrc hg⟩
theorem zpv (hl:laidOutB P=true) {W':World} (hb:Below W.heap.size W W'):∀ {ts:List TypeId} {vs:List Value} {ds:List (DataW H)} {ps:List MemPlace},DataW.TrodAll enc P W 0 (fun _=>true) true ts vs ds ps →
  (∀ t∈ts,P.readableRec t=true∧t < P.types.size)→(∀ x∈ps,x.block < W.heap.size)→DataW.TrodAll enc P W' 0 (fun b=>decide (b < W.heap.size)) true ts vs ds ps
 | [],vs,ds,ps,h,_,_=>by
  obtain ⟨rfl,rfl,rfl⟩:=trodAll_nil h
  rfl
 | t :: ts,vs,ds,ps,h,ht,hp=>by
  obtain ⟨v,vs1,d,ds1,a,b,rfl,rfl,rfl,h1,h2⟩:=trodAll_cons h;have hh:=ht t (List.mem_cons_self ..);exact ⟨a,b,Below.trod hl hh.1 hh.2 h1 hb (fun x hx=>hp x (List.mem_append.2 (.inl hx))),zpv hl hb h2 (fun t' h'=>ht t' (List.mem_cons_of_mem _ h')) (fun x hx=>hp x (List.mem_append.2 (.inr hx))),rfl⟩
end
theorem yjk:ownKnob Tryz.prog.godebug=none:=by kernel_rfl
theorem zyw:laidOutB Tryz.prog=true:=by kernel_rfl
theorem yhe {os:Os} (started:os.Started) {H:Type} {enc:TypeId × Value→H} {spec:ChangeSpec} {f:Nat} {fn:Func} {sp:z0o} {laid:List (String × DataW Unit)} (hS:z32 PR B0 f sp) (hf:Tryz.prog.funcs[f]?=some fn)
  (hn:(fn.name == "runtime.NumGoroutine")=false) (hb:fn.body.isNone=false) (hini:Tryz.prog.inits.idxOf? f=none) (hres:fn.resultTypes = #[4]) (hvars:spec.vars=[])
  (hspec:∀ (ds:List (DataW H)),ds.length=fn.params.toList.length→spec.fn H ds={ results:=[.lit (.bool true)],args:=ds })
  (hpar:fn.params.toList.all (fun t=>Tryz.prog.readableRec t&&decide (t < Tryz.prog.types.size))=true)
  (hglob:∀ W:World,laidMetH Tryz.prog laid W→W.ShapedOpen Tryz.prog→Glob B0 W)
  (witness:∃ (w:World) (tape:Tape) (i:Input),w.os=os∧(w.forCall tape i).Shaped Tryz.prog∧i.vars=[]∧Input.okWide Tryz.prog (w.forCall tape i) .any w.heap.size f i ∧
   (OpenSpec.ofChange spec).preRow enc Tryz.prog fn [] false laid (w.forCall tape i).memory i.args∧({}:Assume).holds Tryz.prog (lone (Frame.enter Tryz.prog f i.args .normal) [] (w.forCall tape i)))
  (harg:∀ (W:World) (base:Nat) (vs:List Value) (ds:List (DataW H)) (p:List MemPlace),DataW.TrodAll enc Tryz.prog W 0 (fun _=>true) true fn.params.toList vs ds p →
   (∀ (j:Nat) t v,fn.params.toList[j]?=some t→vs[j]?=some v→Value.okWide Tryz.prog W .any base t v) →
   (∀ (j:Nat) t d,fn.params.toList[j]?=some t→ds[j]?=some d→∀ y∈d.weights Tryz.prog t,y≤reachBytes) →
   ∃ l:List V,(sp l).get=some (.bool true,[])∧z82 l=none∧VRels γ0 [] W O0 (l.map zab) vs) :
  ReturnsInHanded {} Tryz.checked os f .any ((OpenSpec.ofChange spec).preRow enc Tryz.prog fn [] false laid) (spec.post enc Tryz.prog fn false true false false):=by
 refine returnsInHanded_of_row (C:=Tryz.checked) (s:=OpenSpec.ofChange spec) (F:=fun _ _ _=>0) yjk started hini hf witness ?_
 intro W base args ds gs before hval hW _ _ hwt hL hsh _;have hW':=hW;obtain ⟨p,q,hA,hV,rfl,_,_⟩:=hW;have hvars':(OpenSpec.ofChange spec).vars=[]:=hvars;rw [hvars'] at hV;obtain ⟨rfl,rfl⟩:=trodVars_none hV;have hlen:ds.length=fn.params.toList.length:=by
  have:∀ {ts:List TypeId} {vs:List Value} {ds:List (DataW H)} {ps:List MemPlace},DataW.TrodAll enc Tryz.prog W 0 (fun _=>true) true ts vs ds ps→ds.length=ts.length:=by
   intro ts
   induction ts with
   | nil=>intro vs ds ps h; obtain ⟨_,rfl,_⟩:=trodAll_nil h; rfl
   | cons t ts ih=>
    intro vs ds ps h;obtain ⟨v,vs1,d,ds1,a,b,rfl,rfl,rfl,h1,h2⟩:=trodAll_cons h;simp only [List.length_cons,ih h2]
  exact this hA
 simp only [List.append_nil] at hW' hwt;obtain ⟨l,hl,hbor,hrel⟩:=harg W base args.toList ds p hA (fun j t v h1 h2=>hval j t v (by simpa using h1) (by simpa using h2)) (fun j t d h1 h2 y hy=>by
  have hm:=y3x (P:=Tryz.prog) (ts:=fn.params.toList++(OpenSpec.ofChange spec).bare.plain.varTypes Tryz.prog) (ds:=ds) (i:=j) (t:=t) (d:=d) (by
   rw [List.getElem?_append_left (by rw [← hlen]; exact (List.getElem?_eq_some_iff.1 h2).1)]
   exact h1) h2 y hy
  have:=List.all_eq_true.1 hwt y hm
  simpa using this)
 have hc:=ygx hS hf hn hb hl hbor (hglob W hL hsh) hrel;have ea:args.toList.toArray=args:=by simp
 rw [ea] at hc;refine hc.mono ?_
 rintro e W' ⟨rfl,bel⟩
 have hfn:spec.fn H (ds++[])={ results:=[.lit (.bool true)],args:=ds }:=by rw [List.append_nil]; exact hspec ds hlen
 have hlt:∀ x∈p,x.block < W.heap.size:=fun x hx=>hW'.lt x hx
 have post:spec.post enc Tryz.prog fn false true false false W args (.bool true) W':=by
  refine ⟨ds,[],p,[],p,[],hW',?_,?_,?_,bel.frame _,fun h=>by cases h⟩
  ·rw [hfn,hres]
   exact trodAll_mk1 (shut_bool Tryz.underlying4 _)
  ·rw [hfn]
   exact zpv zyw bel hA (fun t ht=>by
    have:=List.all_eq_true.1 hpar t ht
    simpa using this) hlt
  ·rw [hvars,hfn]
   rfl
 exact ⟨_,rfl,post⟩
end Go.FM
namespace Go.Proofs.YtehhekmihbaghaaGreatDoor
open Go Go.ChangeShapes Go.WideShapes Go.ChangeAt Go.RowKit Go.FM
theorem yjk:ownKnob Tryz.prog.godebug=none:=by kernel_rfl
theorem zyw:laidOutB Tryz.prog=true:=by kernel_rfl
abbrev zpc:List (String × DataW Unit):=Rows.topLinesRow.laid
noncomputable def y9f (os:Os):World:=
 let w0:=World.doorLaid Tryz.prog 72 os
 { w0 with heap:=w0.heap.modify 4 fun
  | .cells _ t frozen=>.cells (Lib.firstTab.map fun z=>Value.int .u8 z).toArray t frozen
  | o=>o }
theorem yob (os:Os) (args:Array Value):laidMetH Tryz.prog zpc ((y9f os).forCall (fun _ _=>0) ⟨#[],args,[]⟩).memory:=
 laidMetH_of_parts3 (fuel:=8) (laidMet_of_run' 8 (by kernel_rfl) (by kernel_rfl)) (by kernel_rfl) (by kernel_rfl)
theorem yj6 {W:World} (hL:laidMetH Tryz.prog zpc W) (hsh:W.ShapedOpen Tryz.prog):Glob B0 W:=by
 have hL':laidMet Tryz.prog zpc W:=by
  rw [MakeChecks.laidMetH_plain _ _ _ (by kernel_rfl)] at hL
  exact hL
 exact yoo hL' hsh (n1 := "*errors.errorString") (n2 := "*errors.errorString") (.tail _ (.tail _ (.head _))) (.tail _ (.tail _ (.tail _ (.tail _ (.head _))))) (.tail _ (.tail _ (.tail _ (.tail _ (.tail _ (.head _))))))
end Go.Proofs.YtehhekmihbaghaaGreatDoor
