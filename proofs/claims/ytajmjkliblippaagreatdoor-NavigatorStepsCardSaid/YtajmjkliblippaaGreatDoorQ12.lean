/-
  Walks and laws of the layers below, gathered from several texts.
-/
import Derived.Test.YtajmjkliblippaaGreatDoorQ9
import Derived.Test.YtajmjkliblippaaGreatDoorQ11
set_option linter.unusedVariables false
namespace Go.Proofs.YtajmjkliblippaaGreatDoor
open Go.ChangeShapes Go.WideShapes Go.ChangeAt Go.RowKit Go.Joins
theorem cells_of_int:Tryz.prog.cellsOf 3 = 1:=by kernel_rfl
theorem cells_of_int64:Tryz.prog.cellsOf 2 = 1:=by kernel_rfl
theorem cells_of_point:Tryz.prog.cellsOf 23 = 2:=by kernel_rfl
section
variable {H:Type} {enc:TypeId × Value→H} {W:World} {base:Nat} {spare:Nat→Bool} {held:Bool} {b0:Nat}
set_option maxRecDepth 100000
theorem trod_point {n:Nat} {c0 c1:Value} {y:DataW H × List MemPlace} (h:DataW.trod enc Tryz.prog W base spare held n 23 [c0,c1] = some y) :
 ∃ a0 a1:Int,c0 = .int .i64 a0∧c1 = .int .i64 a1∧y = (.agg [.lit (.int .i64 a0),.lit (.int .i64 a1)],[])∧(Lit.int .i64 a0).wf = true∧(Lit.int .i64 a1).wf = true:=by
 obtain ⟨xs,m,_,hx,_,hlen,hg⟩:=DataW.trod_struct Tryz.underlying23 h
 match xs,hlen with
 | [y0,y1],_ =>
  have h0:DataW.trod enc Tryz.prog W base spare held m 2 (([c0,c1].drop 0).take (Tryz.prog.cellsOf 2)) = some y0:=hg 0 _ rfl
  rw [cells_of_int64] at h0
  have g0:DataW.trod enc Tryz.prog W base spare held m 2 [c0] = some y0:=h0
  have h1:DataW.trod enc Tryz.prog W base spare held m 2 (([c0,c1].drop 1).take (Tryz.prog.cellsOf 2)) = some y1:=hg 1 _ rfl
  rw [cells_of_int64] at h1
  have g1:DataW.trod enc Tryz.prog W base spare held m 2 [c1] = some y1:=h1
  obtain ⟨a0,e0,r0,w0⟩:=DataW.trod_int Tryz.underlying2 g0
  obtain rfl:c0 = .int .i64 a0:=by simpa using e0
  obtain ⟨a1,e1,r1,w1⟩:=DataW.trod_int Tryz.underlying2 g1
  obtain rfl:c1 = .int .i64 a1:=by simpa using e1
  subst r0 r1
  exact ⟨a0,a1,rfl,rfl,hx,w0,w1⟩
theorem trod_point_mk {a0 a1:Int} (m:Nat) (w0:(Lit.int .i64 a0).wf = true) (w1:(Lit.int .i64 a1).wf = true) :
 DataW.trod enc Tryz.prog W base spare held (m + 2) 23 [.int .i64 a0,.int .i64 a1] = some (.agg [.lit (.int .i64 a0),.lit (.int .i64 a1)],[]):=by
 have i0:=trod_int_mk (enc:=enc) (w:=W) (base:=base) (spare:=spare) (held:=held) m Tryz.underlying2 w0
 have i1:=trod_int_mk (enc:=enc) (w:=W) (base:=base) (spare:=spare) (held:=held) m Tryz.underlying2 w1
 have:=trod_struct_mk (enc:=enc) (w:=W) (base:=base) (spare:=spare) (held:=held) (n:=m + 1) (cs:=[.int .i64 a0,.int .i64 a1])
  (xs:=[(.lit (.int .i64 a0),[]),(.lit (.int .i64 a1),[])]) Tryz.underlying23 (by rw [cells_of_point]; rfl)
  (by simp [cells_of_int64,i0,i1])
 simpa using this
instance : Inhabited Ms := ⟨ms0⟩
end
end Go.Proofs.YtajmjkliblippaaGreatDoor
namespace Go.Proofs.YtajmjkliblippaaGreatDoor
open Go.ChangeShapes Go.WideShapes Go.ChangeAt Go.RowKit Go.Joins
structure Rp where
 s:Int
 k:Int
 x:Int
 y:Int
 v:Int
 b:Int
 wt:Int
 t:Int
def rp0:Rp:=⟨0,0,0,0,0,0,0,0⟩
def nthR (l:List Rp) (i:Nat):Rp:=l.getD i rp0
structure RpAt (l:List Rp) (b o:Nat) (w:World):Prop where
 lt:b < w.heap.size
 c0:∀ i,i < l.length→w.cell? ⟨b,o + i * 8,none⟩ = some (.int .i64 (nthR l i).s)
 c1:∀ i,i < l.length→w.cell? ⟨b,o + i * 8 + 1,none⟩ = some (.int .u8 (nthR l i).k)
 c2:∀ i,i < l.length→w.cell? ⟨b,o + i * 8 + 2,none⟩ = some (.int .i64 (nthR l i).x)
 c3:∀ i,i < l.length→w.cell? ⟨b,o + i * 8 + 3,none⟩ = some (.int .i64 (nthR l i).y)
 c4:∀ i,i < l.length→w.cell? ⟨b,o + i * 8 + 4,none⟩ = some (.int .i64 (nthR l i).v)
 c5:∀ i,i < l.length→w.cell? ⟨b,o + i * 8 + 5,none⟩ = some (.int .i64 (nthR l i).b)
 c6:∀ i,i < l.length→w.cell? ⟨b,o + i * 8 + 6,none⟩ = some (.int .i64 (nthR l i).wt)
 c7:∀ i,i < l.length→w.cell? ⟨b,o + i * 8 + 7,none⟩ = some (.int .i64 (nthR l i).t)
theorem RpAt.below {l:List Rp} {b o:Nat} {w w':World} (h:RpAt l b o w) (hb:Below w.heap.size w w'):RpAt l b o w':=
 ⟨Nat.lt_of_lt_of_le h.lt hb.size,fun i hi=>(hb.cell (p:=⟨b,o + i * 8,none⟩) h.lt).trans (h.c0 i hi),fun i hi=>(hb.cell (p:=⟨b,o + i * 8 + 1,none⟩) h.lt).trans (h.c1 i hi),fun i hi=>(hb.cell (p:=⟨b,o + i * 8 + 2,none⟩) h.lt).trans (h.c2 i hi),fun i hi=>(hb.cell (p:=⟨b,o + i * 8 + 3,none⟩) h.lt).trans (h.c3 i hi),fun i hi=>(hb.cell (p:=⟨b,o + i * 8 + 4,none⟩) h.lt).trans (h.c4 i hi),fun i hi=>(hb.cell (p:=⟨b,o + i * 8 + 5,none⟩) h.lt).trans (h.c5 i hi),fun i hi=>(hb.cell (p:=⟨b,o + i * 8 + 6,none⟩) h.lt).trans (h.c6 i hi),fun i hi=>(hb.cell (p:=⟨b,o + i * 8 + 7,none⟩) h.lt).trans (h.c7 i hi)⟩
def RlAt (l:List Rp) (v:Value) (w:World):Prop:=(v = .slice none 0 0∧l = [])∨∃ b o cap,v = .slice (some ⟨b,o,none⟩) l.length cap∧l.length≤cap∧cap≤9223372036854775807∧RpAt l b o w
theorem RlAt.below {l:List Rp} {v:Value} {w w':World} (h:RlAt l v w) (hb:Below w.heap.size w w'):RlAt l v w':=by
 rcases h with h | ⟨b,o,cap,h1,h2,h3,h4⟩
 ·exact .inl h
 ·exact .inr ⟨b,o,cap,h1,h2,h3,h4.below hb⟩
theorem cells_of_api_ReportKind:Tryz.prog.cellsOf 47 = 1:=by kernel_rfl
theorem cells_of_report:Tryz.prog.cellsOf 49 = 8:=by kernel_rfl
theorem cells_of_box:Tryz.prog.cellsOf 25 = 4:=by kernel_rfl
section
variable {H:Type} {enc:TypeId × Value→H} {W:World} {base:Nat} {spare:Nat→Bool} {held:Bool} {b0:Nat}
set_option maxRecDepth 100000
theorem trod_report {n:Nat} {c0 c1 c2 c3 c4 c5 c6 c7:Value} {y:DataW H × List MemPlace} (h:DataW.trod enc Tryz.prog W base spare held n 49 [c0,c1,c2,c3,c4,c5,c6,c7] = some y) :
 ∃ a0 a1 a2 a3 a4 a5 a6 a7:Int,c0 = .int .i64 a0∧c1 = .int .u8 a1∧c2 = .int .i64 a2∧c3 = .int .i64 a3∧c4 = .int .i64 a4∧c5 = .int .i64 a5∧c6 = .int .i64 a6∧c7 = .int .i64 a7∧y = (.agg [.lit (.int .i64 a0),.lit (.int .u8 a1),.agg [.lit (.int .i64 a2),.lit (.int .i64 a3)],.lit (.int .i64 a4),.lit (.int .i64 a5),.lit (.int .i64 a6),.lit (.int .i64 a7)],[])∧(Lit.int .i64 a0).wf = true∧(Lit.int .u8 a1).wf = true∧(Lit.int .i64 a2).wf = true∧(Lit.int .i64 a3).wf = true∧(Lit.int .i64 a4).wf = true∧(Lit.int .i64 a5).wf = true∧(Lit.int .i64 a6).wf = true∧(Lit.int .i64 a7).wf = true:=by
 obtain ⟨xs,m,_,hx,_,hlen,hg⟩:=DataW.trod_struct Tryz.underlying49 h
 match xs,hlen with
 | [y0,y1,y2,y3,y4,y5,y6],_ =>
  have h0:DataW.trod enc Tryz.prog W base spare held m 3 (([c0,c1,c2,c3,c4,c5,c6,c7].drop 0).take (Tryz.prog.cellsOf 3)) = some y0:=hg 0 _ rfl
  rw [cells_of_int] at h0
  have g0:DataW.trod enc Tryz.prog W base spare held m 3 [c0] = some y0:=h0
  have h1:DataW.trod enc Tryz.prog W base spare held m 47 (([c0,c1,c2,c3,c4,c5,c6,c7].drop 1).take (Tryz.prog.cellsOf 47)) = some y1:=hg 1 _ rfl
  rw [cells_of_api_ReportKind] at h1
  have g1:DataW.trod enc Tryz.prog W base spare held m 47 [c1] = some y1:=h1
  have h2:DataW.trod enc Tryz.prog W base spare held m 23 (([c0,c1,c2,c3,c4,c5,c6,c7].drop 2).take (Tryz.prog.cellsOf 23)) = some y2:=hg 2 _ rfl
  rw [cells_of_point] at h2
  have g2:DataW.trod enc Tryz.prog W base spare held m 23 [c2,c3] = some y2:=h2
  have h3:DataW.trod enc Tryz.prog W base spare held m 2 (([c0,c1,c2,c3,c4,c5,c6,c7].drop 4).take (Tryz.prog.cellsOf 2)) = some y3:=hg 3 _ rfl
  rw [cells_of_int64] at h3
  have g3:DataW.trod enc Tryz.prog W base spare held m 2 [c4] = some y3:=h3
  have h4:DataW.trod enc Tryz.prog W base spare held m 2 (([c0,c1,c2,c3,c4,c5,c6,c7].drop 5).take (Tryz.prog.cellsOf 2)) = some y4:=hg 4 _ rfl
  rw [cells_of_int64] at h4
  have g4:DataW.trod enc Tryz.prog W base spare held m 2 [c5] = some y4:=h4
  have h5:DataW.trod enc Tryz.prog W base spare held m 2 (([c0,c1,c2,c3,c4,c5,c6,c7].drop 6).take (Tryz.prog.cellsOf 2)) = some y5:=hg 5 _ rfl
  rw [cells_of_int64] at h5
  have g5:DataW.trod enc Tryz.prog W base spare held m 2 [c6] = some y5:=h5
  have h6:DataW.trod enc Tryz.prog W base spare held m 2 (([c0,c1,c2,c3,c4,c5,c6,c7].drop 7).take (Tryz.prog.cellsOf 2)) = some y6:=hg 6 _ rfl
  rw [cells_of_int64] at h6
  have g6:DataW.trod enc Tryz.prog W base spare held m 2 [c7] = some y6:=h6
  obtain ⟨a0,e0,r0,w0⟩:=DataW.trod_int Tryz.underlying3 g0
  obtain rfl:c0 = .int .i64 a0:=by simpa using e0
  obtain ⟨a1,e1,r1,w1⟩:=DataW.trod_int Tryz.underlying47 g1
  obtain rfl:c1 = .int .u8 a1:=by simpa using e1
  obtain ⟨a2,a3,rfl,rfl,r2,w2,w3⟩:=trod_point g2
  obtain ⟨a4,e4,r3,w4⟩:=DataW.trod_int Tryz.underlying2 g3
  obtain rfl:c4 = .int .i64 a4:=by simpa using e4
  obtain ⟨a5,e5,r4,w5⟩:=DataW.trod_int Tryz.underlying2 g4
  obtain rfl:c5 = .int .i64 a5:=by simpa using e5
  obtain ⟨a6,e6,r5,w6⟩:=DataW.trod_int Tryz.underlying2 g5
  obtain rfl:c6 = .int .i64 a6:=by simpa using e6
  obtain ⟨a7,e7,r6,w7⟩:=DataW.trod_int Tryz.underlying2 g6
  obtain rfl:c7 = .int .i64 a7:=by simpa using e7
  subst r0 r1 r2 r3 r4 r5 r6
  exact ⟨a0,a1,a2,a3,a4,a5,a6,a7,rfl,rfl,rfl,rfl,rfl,rfl,rfl,rfl,hx,w0,w1,w2,w3,w4,w5,w6,w7⟩
theorem trod_box {n:Nat} {c0 c1 c2 c3:Value} {y:DataW H × List MemPlace} (h:DataW.trod enc Tryz.prog W base spare held n 25 [c0,c1,c2,c3] = some y) :
 ∃ a0 a1 a2 a3:Int,c0 = .int .i64 a0∧c1 = .int .i64 a1∧c2 = .int .i64 a2∧c3 = .int .i64 a3∧y = (.agg [.agg [.lit (.int .i64 a0),.lit (.int .i64 a1)],.lit (.int .i64 a2),.lit (.int .i64 a3)],[])∧(Lit.int .i64 a0).wf = true∧(Lit.int .i64 a1).wf = true∧(Lit.int .i64 a2).wf = true∧(Lit.int .i64 a3).wf = true:=by
 obtain ⟨xs,m,_,hx,_,hlen,hg⟩:=DataW.trod_struct Tryz.underlying25 h
 match xs,hlen with
 | [y0,y1,y2],_ =>
  have h0:DataW.trod enc Tryz.prog W base spare held m 23 (([c0,c1,c2,c3].drop 0).take (Tryz.prog.cellsOf 23)) = some y0:=hg 0 _ rfl
  rw [cells_of_point] at h0
  have g0:DataW.trod enc Tryz.prog W base spare held m 23 [c0,c1] = some y0:=h0
  have h1:DataW.trod enc Tryz.prog W base spare held m 2 (([c0,c1,c2,c3].drop 2).take (Tryz.prog.cellsOf 2)) = some y1:=hg 1 _ rfl
  rw [cells_of_int64] at h1
  have g1:DataW.trod enc Tryz.prog W base spare held m 2 [c2] = some y1:=h1
  have h2:DataW.trod enc Tryz.prog W base spare held m 2 (([c0,c1,c2,c3].drop 3).take (Tryz.prog.cellsOf 2)) = some y2:=hg 2 _ rfl
  rw [cells_of_int64] at h2
  have g2:DataW.trod enc Tryz.prog W base spare held m 2 [c3] = some y2:=h2
  obtain ⟨a0,a1,rfl,rfl,r0,w0,w1⟩:=trod_point g0
  obtain ⟨a2,e2,r1,w2⟩:=DataW.trod_int Tryz.underlying2 g1
  obtain rfl:c2 = .int .i64 a2:=by simpa using e2
  obtain ⟨a3,e3,r2,w3⟩:=DataW.trod_int Tryz.underlying2 g2
  obtain rfl:c3 = .int .i64 a3:=by simpa using e3
  subst r0 r1 r2
  exact ⟨a0,a1,a2,a3,rfl,rfl,rfl,rfl,hx,w0,w1,w2,w3⟩
theorem trod_box_mk {a0 a1 a2 a3:Int} (m:Nat) (w0:(Lit.int .i64 a0).wf = true) (w1:(Lit.int .i64 a1).wf = true) (w2:(Lit.int .i64 a2).wf = true) (w3:(Lit.int .i64 a3).wf = true) :
 DataW.trod enc Tryz.prog W base spare held (m + 3) 25 [.int .i64 a0,.int .i64 a1,.int .i64 a2,.int .i64 a3] = some (.agg [.agg [.lit (.int .i64 a0),.lit (.int .i64 a1)],.lit (.int .i64 a2),.lit (.int .i64 a3)],[]):=by
 have i0:=trod_point_mk (enc:=enc) (W:=W) (base:=base) (spare:=spare) (held:=held) m w0 w1
 have i1:=trod_int_mk (enc:=enc) (w:=W) (base:=base) (spare:=spare) (held:=held) (m + 1) Tryz.underlying2 w2
 have i2:=trod_int_mk (enc:=enc) (w:=W) (base:=base) (spare:=spare) (held:=held) (m + 1) Tryz.underlying2 w3
 have:=trod_struct_mk (enc:=enc) (w:=W) (base:=base) (spare:=spare) (held:=held) (n:=m + 2) (cs:=[.int .i64 a0,.int .i64 a1,.int .i64 a2,.int .i64 a3])
  (xs:=[(.agg [.lit (.int .i64 a0),.lit (.int .i64 a1)],[]),(.lit (.int .i64 a2),[]),(.lit (.int .i64 a3),[])]) Tryz.underlying25 (by rw [cells_of_box]; rfl)
  (by simp [cells_of_int64,cells_of_point,i0,i1,i2])
 simpa using this
instance : Inhabited Rp := ⟨rp0⟩
end
end Go.Proofs.YtajmjkliblippaaGreatDoor
namespace Go.Proofs.YtajmjkliblippaaGreatDoor
open Go.ChangeShapes Go.WideShapes Go.ChangeAt Go.RowKit Go.Joins
theorem cells_of_navstate:Tryz.prog.cellsOf 27 = 6:=by kernel_rfl
theorem cells_of_velocity:Tryz.prog.cellsOf 36 = 2:=by kernel_rfl
structure Pt where
 x:Int
 y:Int
def nthP (l:List Pt) (i:Nat):Pt:=l.getD i ⟨0,0⟩
structure PtsAt (l:List Pt) (b o:Nat) (w:World):Prop where
 lt:b < w.heap.size
 c0:∀ i,i < l.length→w.cell? ⟨b,o + i * 2,none⟩ = some (.int .i64 (nthP l i).x)
 c1:∀ i,i < l.length→w.cell? ⟨b,o + i * 2 + 1,none⟩ = some (.int .i64 (nthP l i).y)
theorem PtsAt.below {l:List Pt} {b o:Nat} {w w':World} (h:PtsAt l b o w) (hb:Below w.heap.size w w'):PtsAt l b o w':=
 ⟨Nat.lt_of_lt_of_le h.lt hb.size,fun i hi=>(hb.cell (p:=⟨b,o + i * 2,none⟩) h.lt).trans (h.c0 i hi),fun i hi=>(hb.cell (p:=⟨b,o + i * 2 + 1,none⟩) h.lt).trans (h.c1 i hi)⟩
def PlAt (l:List Pt) (v:Value) (w:World):Prop:=(v = .slice none 0 0∧l = [])∨∃ b o cap,v = .slice (some ⟨b,o,none⟩) l.length cap∧l.length≤cap∧cap≤9223372036854775807∧PtsAt l b o w
theorem PlAt.below {l:List Pt} {v:Value} {w w':World} (h:PlAt l v w) (hb:Below w.heap.size w w'):PlAt l v w':=by
 rcases h with h | ⟨b,o,cap,h1,h2,h3,h4⟩
 ·exact .inl h
 ·exact .inr ⟨b,o,cap,h1,h2,h3,h4.below hb⟩
theorem cells_of_navin:Tryz.prog.cellsOf 38 = 6:=by kernel_rfl
theorem cells_of_reports:Tryz.prog.cellsOf 34 = 1:=by kernel_rfl
section
variable {H:Type} {enc:TypeId × Value→H} {W:World} {base:Nat} {spare:Nat→Bool} {held:Bool} {b0:Nat}
set_option maxRecDepth 100000
theorem trod_navstate {n:Nat} {c0 c1 c2 c3 c4 c5:Value} {y:DataW H × List MemPlace} (h:DataW.trod enc Tryz.prog W base spare held n 27 [c0,c1,c2,c3,c4,c5] = some y) :
 ∃ a0 a1 a2 a3 a4 a5:Int,c0 = .int .i64 a0∧c1 = .int .i64 a1∧c2 = .int .i64 a2∧c3 = .int .i64 a3∧c4 = .int .i64 a4∧c5 = .int .i64 a5∧y = (.agg [.agg [.agg [.lit (.int .i64 a0),.lit (.int .i64 a1)],.lit (.int .i64 a2),.lit (.int .i64 a3)],.lit (.int .i64 a4),.lit (.int .i64 a5)],[])∧(Lit.int .i64 a0).wf = true∧(Lit.int .i64 a1).wf = true∧(Lit.int .i64 a2).wf = true∧(Lit.int .i64 a3).wf = true∧(Lit.int .i64 a4).wf = true∧(Lit.int .i64 a5).wf = true:=by
 obtain ⟨xs,m,_,hx,_,hlen,hg⟩:=DataW.trod_struct Tryz.underlying27 h
 match xs,hlen with
 | [y0,y1,y2],_ =>
  have h0:DataW.trod enc Tryz.prog W base spare held m 25 (([c0,c1,c2,c3,c4,c5].drop 0).take (Tryz.prog.cellsOf 25)) = some y0:=hg 0 _ rfl
  rw [cells_of_box] at h0
  have g0:DataW.trod enc Tryz.prog W base spare held m 25 [c0,c1,c2,c3] = some y0:=h0
  have h1:DataW.trod enc Tryz.prog W base spare held m 2 (([c0,c1,c2,c3,c4,c5].drop 4).take (Tryz.prog.cellsOf 2)) = some y1:=hg 1 _ rfl
  rw [cells_of_int64] at h1
  have g1:DataW.trod enc Tryz.prog W base spare held m 2 [c4] = some y1:=h1
  have h2:DataW.trod enc Tryz.prog W base spare held m 3 (([c0,c1,c2,c3,c4,c5].drop 5).take (Tryz.prog.cellsOf 3)) = some y2:=hg 2 _ rfl
  rw [cells_of_int] at h2
  have g2:DataW.trod enc Tryz.prog W base spare held m 3 [c5] = some y2:=h2
  obtain ⟨a0,a1,a2,a3,rfl,rfl,rfl,rfl,r0,w0,w1,w2,w3⟩:=trod_box g0
  obtain ⟨a4,e4,r1,w4⟩:=DataW.trod_int Tryz.underlying2 g1
  obtain rfl:c4 = .int .i64 a4:=by simpa using e4
  obtain ⟨a5,e5,r2,w5⟩:=DataW.trod_int Tryz.underlying3 g2
  obtain rfl:c5 = .int .i64 a5:=by simpa using e5
  subst r0 r1 r2
  exact ⟨a0,a1,a2,a3,a4,a5,rfl,rfl,rfl,rfl,rfl,rfl,hx,w0,w1,w2,w3,w4,w5⟩
theorem trod_navstate_mk {a0 a1 a2 a3 a4 a5:Int} (m:Nat) (w0:(Lit.int .i64 a0).wf = true) (w1:(Lit.int .i64 a1).wf = true) (w2:(Lit.int .i64 a2).wf = true) (w3:(Lit.int .i64 a3).wf = true) (w4:(Lit.int .i64 a4).wf = true) (w5:(Lit.int .i64 a5).wf = true) :
 DataW.trod enc Tryz.prog W base spare held (m + 4) 27 [.int .i64 a0,.int .i64 a1,.int .i64 a2,.int .i64 a3,.int .i64 a4,.int .i64 a5] = some (.agg [.agg [.agg [.lit (.int .i64 a0),.lit (.int .i64 a1)],.lit (.int .i64 a2),.lit (.int .i64 a3)],.lit (.int .i64 a4),.lit (.int .i64 a5)],[]):=by
 have i0:=trod_box_mk (enc:=enc) (W:=W) (base:=base) (spare:=spare) (held:=held) m w0 w1 w2 w3
 have i1:=trod_int_mk (enc:=enc) (w:=W) (base:=base) (spare:=spare) (held:=held) (m + 2) Tryz.underlying2 w4
 have i2:=trod_int_mk (enc:=enc) (w:=W) (base:=base) (spare:=spare) (held:=held) (m + 2) Tryz.underlying3 w5
 have:=trod_struct_mk (enc:=enc) (w:=W) (base:=base) (spare:=spare) (held:=held) (n:=m + 3) (cs:=[.int .i64 a0,.int .i64 a1,.int .i64 a2,.int .i64 a3,.int .i64 a4,.int .i64 a5])
  (xs:=[(.agg [.agg [.lit (.int .i64 a0),.lit (.int .i64 a1)],.lit (.int .i64 a2),.lit (.int .i64 a3)],[]),(.lit (.int .i64 a4),[]),(.lit (.int .i64 a5),[])]) Tryz.underlying27 (by rw [cells_of_navstate]; rfl)
  (by simp [cells_of_box,cells_of_int,cells_of_int64,i0,i1,i2])
 simpa using this
theorem open_navstate {v:Value} {d:DataW H} {p:List MemPlace} (hv:Value.okWide Tryz.prog W .any b0 27 v) (h:DataW.Trod enc Tryz.prog W base spare held 27 v d p) :
 ∃ a0 a1 a2 a3 a4 a5:Int,v = .agg #[.int .i64 a0,.int .i64 a1,.int .i64 a2,.int .i64 a3,.int .i64 a4,.int .i64 a5]∧d = .agg [.agg [.agg [.lit (.int .i64 a0),.lit (.int .i64 a1)],.lit (.int .i64 a2),.lit (.int .i64 a3)],.lit (.int .i64 a4),.lit (.int .i64 a5)]∧p = []∧(Lit.int .i64 a0).wf = true∧(Lit.int .i64 a1).wf = true∧(Lit.int .i64 a2).wf = true∧(Lit.int .i64 a3).wf = true∧(Lit.int .i64 a4).wf = true∧(Lit.int .i64 a5).wf = true:=by
 obtain ⟨cs,rfl,hsz⟩:=okWide_struct Tryz.underlying27 hv
 obtain ⟨l⟩:=cs
 match l,hsz.trans cells_of_navstate with
 | [c0,c1,c2,c3,c4,c5],_ =>
  obtain ⟨fuel,hf⟩:=h
  have hf':DataW.trod enc Tryz.prog W base spare held fuel 27 [c0,c1,c2,c3,c4,c5] = some (d,p):=hf
  obtain ⟨a0,a1,a2,a3,a4,a5,rfl,rfl,rfl,rfl,rfl,rfl,hy,w0,w1,w2,w3,w4,w5⟩:=trod_navstate hf'
  simp only [Prod.mk.injEq] at hy
  exact ⟨a0,a1,a2,a3,a4,a5,rfl,hy.1,hy.2,w0,w1,w2,w3,w4,w5⟩
theorem shut_navstate {a0 a1 a2 a3 a4 a5:Int} (w0:(Lit.int .i64 a0).wf = true) (w1:(Lit.int .i64 a1).wf = true) (w2:(Lit.int .i64 a2).wf = true) (w3:(Lit.int .i64 a3).wf = true) (w4:(Lit.int .i64 a4).wf = true) (w5:(Lit.int .i64 a5).wf = true) :
 DataW.Trod enc Tryz.prog W base spare held 27 (.agg #[.int .i64 a0,.int .i64 a1,.int .i64 a2,.int .i64 a3,.int .i64 a4,.int .i64 a5]) (.agg [.agg [.agg [.lit (.int .i64 a0),.lit (.int .i64 a1)],.lit (.int .i64 a2),.lit (.int .i64 a3)],.lit (.int .i64 a4),.lit (.int .i64 a5)]) []:=
 ⟨4,trod_navstate_mk (enc:=enc) (W:=W) (base:=base) (spare:=spare) (held:=held) 0 w0 w1 w2 w3 w4 w5⟩
theorem trod_velocity {n:Nat} {c0 c1:Value} {y:DataW H × List MemPlace} (h:DataW.trod enc Tryz.prog W base spare held n 36 [c0,c1] = some y) :
 ∃ a0 a1:Int,c0 = .int .i64 a0∧c1 = .int .i64 a1∧y = (.agg [.lit (.int .i64 a0),.lit (.int .i64 a1)],[])∧(Lit.int .i64 a0).wf = true∧(Lit.int .i64 a1).wf = true:=by
 obtain ⟨xs,m,_,hx,_,hlen,hg⟩:=DataW.trod_struct Tryz.underlying36 h
 match xs,hlen with
 | [y0,y1],_ =>
  have h0:DataW.trod enc Tryz.prog W base spare held m 2 (([c0,c1].drop 0).take (Tryz.prog.cellsOf 2)) = some y0:=hg 0 _ rfl
  rw [cells_of_int64] at h0
  have g0:DataW.trod enc Tryz.prog W base spare held m 2 [c0] = some y0:=h0
  have h1:DataW.trod enc Tryz.prog W base spare held m 2 (([c0,c1].drop 1).take (Tryz.prog.cellsOf 2)) = some y1:=hg 1 _ rfl
  rw [cells_of_int64] at h1
  have g1:DataW.trod enc Tryz.prog W base spare held m 2 [c1] = some y1:=h1
  obtain ⟨a0,e0,r0,w0⟩:=DataW.trod_int Tryz.underlying2 g0
  obtain rfl:c0 = .int .i64 a0:=by simpa using e0
  obtain ⟨a1,e1,r1,w1⟩:=DataW.trod_int Tryz.underlying2 g1
  obtain rfl:c1 = .int .i64 a1:=by simpa using e1
  subst r0 r1
  exact ⟨a0,a1,rfl,rfl,hx,w0,w1⟩
instance : Inhabited Pt := ⟨⟨0,0⟩⟩
end
end Go.Proofs.YtajmjkliblippaaGreatDoor
namespace Go.Proofs.YtajmjkliblippaaGreatDoor
open Go.ChangeShapes Go.WideShapes Go.ChangeAt Go.RowKit Go.Joins
def RlG (l:List Rp) (v:Value) (w:World):Prop:=∃ p cap,v = .slice p l.length cap∧(l.length≤cap∧cap≤9223372036854775807)∧∀ k,k < l.length→∃ b o,p = some ⟨b,o,none⟩∧RpAt l b o w
theorem RlG.below {l:List Rp} {v:Value} {w w':World} (h:RlG l v w) (hb:Below w.heap.size w w'):RlG l v w':=by
 obtain ⟨p,cap,e,hc,h⟩:=h
 exact ⟨p,cap,e,hc,fun k hk=>by obtain ⟨b,o,e,r⟩:=h k hk; exact ⟨b,o,e,r.below hb⟩⟩
theorem rg_form {l:List Rp} {v:Value} {w:World} (h:RlG l v w):∃ p cap,v = .slice p l.length cap:=by
 obtain ⟨p,cap,e,_⟩:=h
 exact ⟨p,cap,e⟩
theorem rg_cap {l:List Rp} {p:Option Addr} {n cap:Nat} {w:World} (h:RlG l (.slice p n cap) w):n = l.length∧l.length≤cap∧cap≤9223372036854775807:=by
 obtain ⟨p',cap',e,hc,_⟩:=h
 injection e with e1 e2 e3
 subst e3
 exact ⟨e2,hc⟩
theorem rg_at {l:List Rp} {p:Option Addr} {cap:Nat} {w:World} (h:RlG l (.slice p l.length cap) w) {k:Nat} (q:k < l.length):∃ b o,p = some ⟨b,o,none⟩∧l.length≤cap∧cap≤9223372036854775807∧RpAt l b o w:=by
 obtain ⟨p',cap',e,hc,h⟩:=h
 injection e with e1 e2 e3
 subst e1 e3
 obtain ⟨b,o,e,r⟩:=h k q
 exact ⟨b,o,e,hc.1,hc.2,r⟩
theorem rg_nil (w:World):RlG [] (.slice none 0 0) w:=⟨none,0,rfl,⟨Nat.le_refl _,by omega⟩,fun k hk=>absurd hk (by simp)⟩
theorem nthR_take {l:List Rp} {n i:Nat} (hi:i < (l.take n).length):i < l.length∧nthR (l.take n) i = nthR l i:=by
 rw [List.length_take] at hi
 refine ⟨by omega,?_⟩
 unfold nthR
 rw [List.getD_eq_getElem?_getD,List.getD_eq_getElem?_getD,List.getElem?_take,if_pos (by omega)]
theorem rps_take {l:List Rp} {b o:Nat} {w:World} (h:RpAt l b o w) (n:Nat):RpAt (l.take n) b o w:=
 ⟨h.lt,fun i hi=>by rw [(nthR_take hi).2]; exact h.c0 i (nthR_take hi).1,fun i hi=>by rw [(nthR_take hi).2]; exact h.c1 i (nthR_take hi).1,fun i hi=>by rw [(nthR_take hi).2]; exact h.c2 i (nthR_take hi).1,fun i hi=>by rw [(nthR_take hi).2]; exact h.c3 i (nthR_take hi).1,fun i hi=>by rw [(nthR_take hi).2]; exact h.c4 i (nthR_take hi).1,fun i hi=>by rw [(nthR_take hi).2]; exact h.c5 i (nthR_take hi).1,fun i hi=>by rw [(nthR_take hi).2]; exact h.c6 i (nthR_take hi).1,fun i hi=>by rw [(nthR_take hi).2]; exact h.c7 i (nthR_take hi).1⟩
theorem rg_take {l:List Rp} {p:Option Addr} {cap:Nat} {w:World} (h:RlG l (.slice p l.length cap) w) {n:Nat} (hn:n≤l.length):RlG (l.take n) (.slice p n cap) w:=by
 obtain ⟨p',cap',e,hc,h⟩:=h
 injection e with e1 e2 e3
 subst e1 e3
 have hl:(l.take n).length = n:=by rw [List.length_take]; omega
 refine ⟨p,cap,by rw [hl],⟨by omega,hc.2⟩,fun k hk=>?_⟩
 obtain ⟨b,o,e,r⟩:=h k (by omega)
 exact ⟨b,o,e,rps_take r n⟩
theorem cell_addr {W:World} {a:Addr} {v:Value} (h:W.cell? a = some v):a.spot = none∧a.block < W.heap.size:=by
 unfold World.cell? at h
 split at h
 ·rename_i q
  split at h
  ·cases h
  ·rename_i hs
   exact ⟨by simpa using hs,(Array.getElem?_eq_some_iff.1 q).1⟩
 ·cases h
theorem add_none {a:Addr} (hsp:a.spot = none) (i j:Nat):(a.add i).add j = ⟨a.block,a.off + i + j,none⟩:=by
 rw [Go.Deep.add_add]
 unfold Addr.add
 obtain ⟨ab,af,asp⟩:=a
 simp only at hsp
 subst hsp
 split
 ·rename_i e
  simp only [Addr.mk.injEq,and_true,true_and]
  omega
 ·simp only [Addr.mk.injEq,and_true,true_and]
  omega
theorem max_le2 {n:Nat} (h:n≤maxLen):n≤9223372036854775807:=by unfold maxLen at h; omega
section
variable {H:Type} {enc:TypeId × Value→H} {W:World} {b0:Nat}
set_option maxRecDepth 100000
theorem trod_reportsG {fuel:Nat} {c:Value} {y:DataW H × List MemPlace} (h:DataW.trod enc Tryz.prog W 0 (fun _=>true) true fuel 34 [c] = some y) :
 ∃ l:List Rp,RlG l c W∧∀ i,i < l.length→0≤(nthR l i).k∧(nthR l i).k≤255:=by
 rcases Go.Deep.open_slice Tryz.underlying34 h with ⟨hc,_⟩ | ⟨a,len,cap,m,n,D,Pl,hc,_,hlc,hcm,hm,_,hi⟩
 ·obtain rfl:c = .slice none 0 0:=(List.cons.inj hc).1
  exact ⟨[],rg_nil W,fun i hi=>absurd hi (by simp)⟩
 ·obtain rfl:c = .slice (some a) len cap:=(List.cons.inj hc).1
  simp only [if_true] at hm
  subst hm
  have cells:∀ i,i < len→∃ cs',cs'.length = 8∧(∀ j (hj:j < 8),W.cell? ((a.add (i * 8)).add j) = cs'[j]?)∧DataW.trod enc Tryz.prog W 0 (fun _=>true) true n 49 cs' = some (D i,Pl i):=fun i hil=>by
   obtain ⟨cs,hcs,ht⟩:=hi i (by omega)
   rw [cells_of_report] at hcs
   obtain ⟨_,hl,hat⟩:=World.cells?_some hcs
   exact ⟨cs,hl,fun j hj=>by rw [hat j (by omega)],ht⟩
  have hsp:0 < len→a.spot = none∧a.block < W.heap.size:=fun hl=>by
   obtain ⟨cs,hcl,hat,_⟩:=cells 0 hl
   have:=hat 0 (by omega)
   rw [List.getElem?_eq_getElem (by omega)] at this
   exact cell_addr this
  have key:∀ i,i < len→∃ x:Rp,(0≤x.k∧x.k≤255)∧(a.spot = none∧a.block < W.heap.size)∧W.cell? ⟨a.block,a.off + i * 8,none⟩ = some (.int .i64 x.s)∧W.cell? ⟨a.block,a.off + i * 8 + 1,none⟩ = some (.int .u8 x.k)∧W.cell? ⟨a.block,a.off + i * 8 + 2,none⟩ = some (.int .i64 x.x)∧W.cell? ⟨a.block,a.off + i * 8 + 3,none⟩ = some (.int .i64 x.y)∧W.cell? ⟨a.block,a.off + i * 8 + 4,none⟩ = some (.int .i64 x.v)∧W.cell? ⟨a.block,a.off + i * 8 + 5,none⟩ = some (.int .i64 x.b)∧W.cell? ⟨a.block,a.off + i * 8 + 6,none⟩ = some (.int .i64 x.wt)∧W.cell? ⟨a.block,a.off + i * 8 + 7,none⟩ = some (.int .i64 x.t):=by
   intro i hil
   have hs:=hsp (by omega)
   obtain ⟨cs,hl,hat,ht⟩:=cells i hil
   match cs,hl with
   | [c0,c1,c2,c3,c4,c5,c6,c7],_ =>
    obtain ⟨a0,a1,a2,a3,a4,a5,a6,a7,rfl,rfl,rfl,rfl,rfl,rfl,rfl,rfl,_,_,hk,_⟩:=trod_report ht
    have hk':0≤a1∧a1≤255:=by simp [Lit.wf,IntKind.min,IntKind.max,IntKind.signed,IntKind.bits] at hk; omega
    refine ⟨⟨a0,a1,a2,a3,a4,a5,a6,a7⟩,hk',hs,?_,?_,?_,?_,?_,?_,?_,?_⟩
    ·have:=hat 0 (by omega); rw [add_none hs.1] at this; exact this
    ·have:=hat 1 (by omega); rw [add_none hs.1] at this; exact this
    ·have:=hat 2 (by omega); rw [add_none hs.1] at this; exact this
    ·have:=hat 3 (by omega); rw [add_none hs.1] at this; exact this
    ·have:=hat 4 (by omega); rw [add_none hs.1] at this; exact this
    ·have:=hat 5 (by omega); rw [add_none hs.1] at this; exact this
    ·have:=hat 6 (by omega); rw [add_none hs.1] at this; exact this
    ·have:=hat 7 (by omega); rw [add_none hs.1] at this; exact this
  obtain ⟨f,hf⟩:=Go.Deep.choose_lt key
  have hlen:((List.range len).map f).length = len:=by simp
  have hn:∀ i,i < len→nthR ((List.range len).map f) i = f i:=fun i hil=>by
   unfold nthR
   rw [List.getD_eq_getElem?_getD,List.getElem?_map,List.getElem?_range hil]
   rfl
  refine ⟨(List.range len).map f,⟨some a,m,by rw [hlen],⟨by rw [hlen]; exact hlc,max_le2 hcm⟩,fun k hk=>?_⟩,fun i hil=>?_⟩
  ·rw [hlen] at hk
   have hs:=(hf k hk).2.1
   obtain ⟨ab,af,asp⟩:=a
   simp only at hs
   obtain ⟨rfl,hlt⟩:=hs
   refine ⟨ab,af,rfl,hlt,?_,?_,?_,?_,?_,?_,?_,?_⟩
   all_goals
    intro i hil
    rw [hlen] at hil
    rw [hn i hil]
   ·exact (hf i hil).2.2.1
   ·exact (hf i hil).2.2.2.1
   ·exact (hf i hil).2.2.2.2.1
   ·exact (hf i hil).2.2.2.2.2.1
   ·exact (hf i hil).2.2.2.2.2.2.1
   ·exact (hf i hil).2.2.2.2.2.2.2.1
   ·exact (hf i hil).2.2.2.2.2.2.2.2.1
   ·exact (hf i hil).2.2.2.2.2.2.2.2.2
  ·rw [hlen] at hil
   rw [hn i hil]
   exact (hf i hil).1
theorem trod_navinG {n:Nat} {c0 c1 c2 c3 c4 c5:Value} {y:DataW H × List MemPlace} (h:DataW.trod enc Tryz.prog W 0 (fun _=>true) true n 38 [c0,c1,c2,c3,c4,c5] = some y) :
 ∃ (a0 a2 a3 a4 a5:Int) (l:List Rp),c0 = .int .i64 a0∧c2 = .int .i64 a2∧c3 = .int .i64 a3∧c4 = .int .i64 a4∧c5 = .int .i64 a5∧RlG l c1 W∧∀ i,i < l.length→0≤(nthR l i).k∧(nthR l i).k≤255:=by
 obtain ⟨xs,m,_,hx,_,hlen,hg⟩:=DataW.trod_struct Tryz.underlying38 h
 match xs,hlen with
 | [y0,y1,y2,y3,y4],_ =>
  have h0:DataW.trod enc Tryz.prog W 0 (fun _=>true) true m 2 (([c0,c1,c2,c3,c4,c5].drop 0).take (Tryz.prog.cellsOf 2)) = some y0:=hg 0 _ rfl
  rw [cells_of_int64] at h0
  have g0:DataW.trod enc Tryz.prog W 0 (fun _=>true) true m 2 [c0] = some y0:=h0
  have h1:DataW.trod enc Tryz.prog W 0 (fun _=>true) true m 34 (([c0,c1,c2,c3,c4,c5].drop 1).take (Tryz.prog.cellsOf 34)) = some y1:=hg 1 _ rfl
  rw [cells_of_reports] at h1
  have g1:DataW.trod enc Tryz.prog W 0 (fun _=>true) true m 34 [c1] = some y1:=h1
  have h2:DataW.trod enc Tryz.prog W 0 (fun _=>true) true m 36 (([c0,c1,c2,c3,c4,c5].drop 2).take (Tryz.prog.cellsOf 36)) = some y2:=hg 2 _ rfl
  rw [cells_of_velocity] at h2
  have g2:DataW.trod enc Tryz.prog W 0 (fun _=>true) true m 36 [c2,c3] = some y2:=h2
  have h3:DataW.trod enc Tryz.prog W 0 (fun _=>true) true m 2 (([c0,c1,c2,c3,c4,c5].drop 4).take (Tryz.prog.cellsOf 2)) = some y3:=hg 3 _ rfl
  rw [cells_of_int64] at h3
  have g3:DataW.trod enc Tryz.prog W 0 (fun _=>true) true m 2 [c4] = some y3:=h3
  have h4:DataW.trod enc Tryz.prog W 0 (fun _=>true) true m 2 (([c0,c1,c2,c3,c4,c5].drop 5).take (Tryz.prog.cellsOf 2)) = some y4:=hg 4 _ rfl
  rw [cells_of_int64] at h4
  have g4:DataW.trod enc Tryz.prog W 0 (fun _=>true) true m 2 [c5] = some y4:=h4
  obtain ⟨a0,e0,_,_⟩:=DataW.trod_int Tryz.underlying2 g0
  obtain rfl:c0 = .int .i64 a0:=by simpa using e0
  obtain ⟨l,hl,hk⟩:=trod_reportsG g1
  obtain ⟨a2,a3,rfl,rfl,_,_,_⟩:=trod_velocity g2
  obtain ⟨a4,e4,_,_⟩:=DataW.trod_int Tryz.underlying2 g3
  obtain rfl:c4 = .int .i64 a4:=by simpa using e4
  obtain ⟨a5,e5,_,_⟩:=DataW.trod_int Tryz.underlying2 g4
  obtain rfl:c5 = .int .i64 a5:=by simpa using e5
  exact ⟨a0,a2,a3,a4,a5,l,rfl,rfl,rfl,rfl,rfl,hl,hk⟩
theorem open_navinG {v:Value} {d:DataW H} {p:List MemPlace} (hv:Value.okWide Tryz.prog W .any b0 38 v) (h:DataW.Trod enc Tryz.prog W 0 (fun _=>true) true 38 v d p) :
 ∃ (a0:Int) (r:Value) (a2 a3 a4 a5:Int) (l:List Rp),v = .agg #[.int .i64 a0,r,.int .i64 a2,.int .i64 a3,.int .i64 a4,.int .i64 a5]∧RlG l r W∧∀ i,i < l.length→0≤(nthR l i).k∧(nthR l i).k≤255:=by
 obtain ⟨cs,rfl,hsz⟩:=okWide_struct Tryz.underlying38 hv
 obtain ⟨l⟩:=cs
 match l,hsz.trans cells_of_navin with
 | [c0,c1,c2,c3,c4,c5],_ =>
  obtain ⟨fuel,hf⟩:=h
  have hf':DataW.trod enc Tryz.prog W 0 (fun _=>true) true fuel 38 [c0,c1,c2,c3,c4,c5] = some (d,p):=hf
  obtain ⟨a0,a2,a3,a4,a5,l,rfl,rfl,rfl,rfl,rfl,hl,hk⟩:=trod_navinG hf'
  exact ⟨a0,c1,a2,a3,a4,a5,l,rfl,hl,hk⟩
end
end Go.Proofs.YtajmjkliblippaaGreatDoor
