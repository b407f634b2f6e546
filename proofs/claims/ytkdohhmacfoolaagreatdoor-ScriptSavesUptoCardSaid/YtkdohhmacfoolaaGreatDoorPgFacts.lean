/- Facts. No condition. -/
import Derived.Test.YtkdohhmacfoolaaGreatDoorRows
import Derived.Test.YtkdohhmacfoolaaGreatDoorPgAmB
set_option linter.unusedSimpArgs false
set_option linter.unusedVariables false
namespace Go.Proofs.YtkdohhmacfoolaaGreatDoor
open Go.Proofs.Tryz Go Go.AM
theorem sz0:aO prog 0=some 1:=by kernel_rfl
theorem sz1:aO prog 1=some 1:=by kernel_rfl
theorem tb1:Tryz.t1.bytes=8:=rfl
theorem sz2:aO prog 2=some 1:=by kernel_rfl
theorem sz3:aO prog 3=some 1:=by kernel_rfl
theorem in3:Tryz.prog.info? 3=some Tryz.t3:=by kernel_rfl
theorem ts3:Tryz.t3.size=1:=rfl
theorem tb3:Tryz.t3.bytes=8:=rfl
theorem tz3:Tryz.t3.zero=some (Value.int IntKind.i64 0):=rfl
theorem zc3:zeroCells? prog 3=some [.v (Value.int IntKind.i64 0)]:=by kernel_rfl
theorem sz4:aO prog 4=some 1:=by kernel_rfl
theorem in4:Tryz.prog.info? 4=some Tryz.t4:=by kernel_rfl
theorem ts4:Tryz.t4.size=1:=rfl
theorem tb4:Tryz.t4.bytes=1:=rfl
theorem tz4:Tryz.t4.zero=some (Value.bool false):=rfl
theorem zc4:zeroCells? prog 4=some [.v (Value.bool false)]:=by kernel_rfl
theorem sz5:aO prog 5=some 1:=by kernel_rfl
theorem in5:Tryz.prog.info? 5=some Tryz.t5:=by kernel_rfl
theorem ts5:Tryz.t5.size=1:=rfl
theorem tb5:Tryz.t5.bytes=1:=rfl
theorem tz5:Tryz.t5.zero=some (Value.int IntKind.u8 0):=rfl
theorem zc5:zeroCells? prog 5=some [.v (Value.int IntKind.u8 0)]:=by kernel_rfl
theorem sz6:aO prog 6=some 1:=by kernel_rfl
theorem sz7:aO prog 7=some 4:=by kernel_rfl
theorem sz8:aO prog 8=some 4:=by kernel_rfl
theorem sz9:aO prog 9=some 1:=by kernel_rfl
theorem in9:Tryz.prog.info? 9=some Tryz.t9:=by kernel_rfl
theorem ts9:Tryz.t9.size=1:=rfl
theorem tb9:Tryz.t9.bytes=16:=rfl
theorem tz9:Tryz.t9.zero=some (Value.string { data:= #[] }):=rfl
theorem zc9:zeroCells? prog 9=some [.v (Value.string { data:= #[] })]:=by kernel_rfl
theorem cJm:aO prog 10=some 1:=by kernel_rfl
theorem cJn:aO prog 11=some 1:=by kernel_rfl
theorem cJo:aO prog 12=some 1:=by kernel_rfl
theorem cJp:aO prog 13=some 2:=by kernel_rfl
theorem cJq:aO prog 14=some 2:=by kernel_rfl
theorem cJr:aO prog 15=some 1:=by kernel_rfl
theorem cJs:aO prog 16=some 1:=by kernel_rfl
theorem cJt:aO prog 17=some 1:=by kernel_rfl
theorem cJu:aO prog 18=some 1:=by kernel_rfl
theorem cJv:aO prog 19=some 1:=by kernel_rfl
theorem cJw:aO prog 20=some 1:=by kernel_rfl
theorem cJx:aO prog 21=some 1:=by kernel_rfl
theorem cJy:aO prog 22=some 3:=by kernel_rfl
theorem bY6:aO prog 23=some 3:=by kernel_rfl
theorem cHy:zeroCells? prog 23=some [.v (Value.int IntKind.i64 0),.v (Value.int IntKind.i64 0),.v (Value.int IntKind.i64 0)]:=by kernel_rfl
theorem cJz:aO prog 24=some 1:=by kernel_rfl
theorem bZx:Tryz.prog.info? 24=some Tryz.t24:=by kernel_rfl
theorem cLx:Tryz.t24.size=1:=rfl
theorem cHj:Tryz.t24.bytes=24:=rfl
theorem cHq:Tryz.t24.zero=some (Value.slice none 0 0):=rfl
theorem cK0:aO prog 25=some 1:=by kernel_rfl
theorem cK1:aO prog 26=some 1:=by kernel_rfl
theorem cFu:aO prog 27=some 1:=by kernel_rfl
theorem bUt:aO prog 28=some 1:=by kernel_rfl
theorem bYn:zeroCells? prog 28=some [.v (Value.slice none 0 0)]:=by kernel_rfl
theorem cK2:aO prog 29=some 5:=by kernel_rfl
theorem cK3:aO prog 30=some 5:=by kernel_rfl
theorem cM4:zeroCells? prog 30=some [.v (Value.int IntKind.i64 0),.v (Value.int IntKind.i64 0),.v (Value.int IntKind.i64 0),.v (Value.slice none 0 0),.v (Value.slice none 0 0)]:=by kernel_rfl
theorem cGu:aO prog 31=some 1:=by kernel_rfl
theorem cK4:aO prog 32=some 6:=by kernel_rfl
theorem bLj:aO prog 33=some 6:=by kernel_rfl
theorem bYo:zeroCells? prog 33=some [.v (Value.int IntKind.i64 0),.v (Value.int IntKind.i64 0),.v (Value.int IntKind.i64 0),.v (Value.slice none 0 0),.v (Value.slice none 0 0),.v (Value.slice none 0 0)]:=by kernel_rfl
theorem cK5:aO prog 34=some 2:=by kernel_rfl
theorem cK6:aO prog 35=some 2:=by kernel_rfl
theorem cM5:zeroCells? prog 35=some [.v (Value.slice none 0 0),.v (Value.int IntKind.i64 0)]:=by kernel_rfl
theorem cK7:aO prog 36=some 1:=by kernel_rfl
theorem bZz:Tryz.prog.info? 36=some Tryz.t36:=by kernel_rfl
theorem cLy:Tryz.t36.size=1:=rfl
theorem cHk:Tryz.t36.bytes=8:=rfl
theorem cHs:Tryz.t36.zero=some (Value.int IntKind.i64 0):=rfl
theorem cK8:aO prog 37=some 1:=by kernel_rfl
theorem cK9:aO prog 38=some 1:=by kernel_rfl
theorem cKa:aO prog 39=some 1:=by kernel_rfl
theorem aM8:aO prog 40=some 1:=by kernel_rfl
theorem bX0:Tryz.prog.info? 40=some Tryz.t40:=by kernel_rfl
theorem bYd:Tryz.t40.size=1:=rfl
theorem bLk:Tryz.t40.bytes=8:=rfl
theorem bYf:Tryz.t40.zero=some (Value.int IntKind.u64 0):=rfl
theorem bQs:zeroCells? prog 40=some [.v (Value.int IntKind.u64 0)]:=by kernel_rfl
theorem cKb:aO prog 41=some 4:=by kernel_rfl
theorem cKc:aO prog 42=some 4:=by kernel_rfl
theorem cM6:zeroCells? prog 42=some [.v (Value.int IntKind.i64 0),.v (Value.int IntKind.u64 0),.v (Value.int IntKind.u64 0),.v (Value.string { data:= #[] })]:=by kernel_rfl
theorem cKd:aO prog 43=some 1:=by kernel_rfl
theorem cKe:aO prog 44=some 1:=by kernel_rfl
theorem cKf:aO prog 45=some 1:=by kernel_rfl
theorem cKg:aO prog 46=some 1:=by kernel_rfl
theorem cKh:aO prog 47=some 1:=by kernel_rfl
theorem cKi:aO prog 48=some 1:=by kernel_rfl
theorem cKj:aO prog 49=some 1:=by kernel_rfl
theorem cKk:aO prog 50=some 1:=by kernel_rfl
theorem cKl:aO prog 51=some 1:=by kernel_rfl
theorem cKm:aO prog 52=some 1:=by kernel_rfl
theorem cKn:aO prog 53=some 1:=by kernel_rfl
theorem cKo:aO prog 54=some 1:=by kernel_rfl
theorem cKp:aO prog 55=some 1:=by kernel_rfl
theorem bBx:aO prog 56=some 1:=by kernel_rfl
theorem cIc:Tryz.prog.info? 56=some Tryz.t56:=by kernel_rfl
theorem cLz:Tryz.t56.size=1:=rfl
theorem cLw:Tryz.t56.bytes=24:=rfl
theorem cM7:zeroCells? prog 56=some [.v (Value.slice none 0 0)]:=by kernel_rfl
theorem cKq:aO prog 57=some 1:=by kernel_rfl
theorem cKr:aO prog 58=some 1:=by kernel_rfl
theorem cKs:aO prog 59=some 1:=by kernel_rfl
theorem cKt:aO prog 60=some 3:=by kernel_rfl
theorem aNu:aO prog 61=some 3:=by kernel_rfl
theorem bO2:Tryz.prog.info? 61=some Tryz.t61:=by kernel_rfl
theorem bQl:Tryz.t61.size=3:=rfl
theorem aUy:Tryz.t61.bytes=24:=rfl
theorem bQm:Tryz.t61.zero=some (Value.agg #[Value.int IntKind.i64 0,Value.int IntKind.i64 0,Value.int IntKind.i64 0]):=rfl
theorem aZ4:zeroCells? prog 61=some [.v (Value.int IntKind.i64 0),.v (Value.int IntKind.i64 0),.v (Value.int IntKind.i64 0)]:=by kernel_rfl
theorem cKu:aO prog 62=some 1:=by kernel_rfl
theorem cKv:aO prog 63=some 1:=by kernel_rfl
theorem cKw:aO prog 64=some 1:=by kernel_rfl
theorem cKx:aO prog 65=some 1:=by kernel_rfl
theorem cKy:aO prog 66=some 1:=by kernel_rfl
theorem cKz:aO prog 67=some 9:=by kernel_rfl
theorem cL0:aO prog 68=some 9:=by kernel_rfl
theorem cM8:zeroCells? prog 68=some [.v (Value.int IntKind.i64 0),.v (Value.int IntKind.i64 0),.v (Value.int IntKind.i64 0),.v (Value.slice none 0 0),.v (Value.slice none 0 0),.v (Value.slice none 0 0),.v (Value.slice none 0 0),.v (Value.int IntKind.i64 0),.v (Value.bool false)]:=by kernel_rfl
theorem bY7:aO prog 69=some 1:=by kernel_rfl
theorem bX1:Tryz.prog.info? 69=some Tryz.t69:=by kernel_rfl
theorem bYe:Tryz.t69.size=1:=rfl
theorem bLl:Tryz.t69.bytes=24:=rfl
theorem bYg:Tryz.t69.zero=some (Value.slice none 0 0):=rfl
theorem bYp:zeroCells? prog 69=some [.v (Value.slice none 0 0)]:=by kernel_rfl
theorem cL1:aO prog 70=some 1:=by kernel_rfl
theorem cL2:aO prog 71=some 1:=by kernel_rfl
theorem cL3:aO prog 72=some 1:=by kernel_rfl
theorem cL4:aO prog 73=some 1:=by kernel_rfl
theorem cL5:aO prog 74=some 1:=by kernel_rfl
theorem cL6:aO prog 75=some 1:=by kernel_rfl
theorem cL7:aO prog 76=some 1:=by kernel_rfl
theorem cL8:aO prog 77=some 1:=by kernel_rfl
theorem cL9:aO prog 78=some 1:=by kernel_rfl
theorem cLa:aO prog 79=some 1:=by kernel_rfl
theorem cLb:aO prog 80=some 1:=by kernel_rfl
theorem cLc:aO prog 81=some 1:=by kernel_rfl
theorem cLd:aO prog 82=some 1:=by kernel_rfl
theorem cLe:aO prog 83=some 1:=by kernel_rfl
theorem cLf:aO prog 84=some 1:=by kernel_rfl
theorem cLg:aO prog 85=some 1:=by kernel_rfl
theorem cLh:aO prog 86=some 1:=by kernel_rfl
theorem cLi:aO prog 87=some 1:=by kernel_rfl
theorem cLj:aO prog 88=some 1:=by kernel_rfl
theorem cLk:aO prog 89=some 1:=by kernel_rfl
theorem cLl:aO prog 90=some 1:=by kernel_rfl
theorem cLm:aO prog 91=some 1:=by kernel_rfl
theorem cLn:aO prog 92=some 1:=by kernel_rfl
theorem cLo:aO prog 93=some 2:=by kernel_rfl
theorem bQc:aO prog 94=some 2:=by kernel_rfl
theorem bSa:Tryz.prog.info? 94=some Tryz.t94:=by kernel_rfl
theorem bUy:Tryz.t94.size=2:=rfl
theorem bC1:Tryz.t94.bytes=16:=rfl
theorem bV0:Tryz.t94.zero=some (Value.agg #[Value.int IntKind.u64 0,Value.int IntKind.u64 0]):=rfl
theorem bQt:zeroCells? prog 94=some [.v (Value.int IntKind.u64 0),.v (Value.int IntKind.u64 0)]:=by kernel_rfl
theorem cLp:aO prog 95=some 2:=by kernel_rfl
theorem bQd:aO prog 96=some 2:=by kernel_rfl
theorem bSb:Tryz.prog.info? 96=some Tryz.t96:=by kernel_rfl
theorem bUz:Tryz.t96.size=2:=rfl
theorem bC2:Tryz.t96.bytes=16:=rfl
theorem bV1:Tryz.t96.zero=some (Value.agg #[Value.bool false,Value.int IntKind.u64 0]):=rfl
theorem bQu:zeroCells? prog 96=some [.v (Value.bool false),.v (Value.int IntKind.u64 0)]:=by kernel_rfl
theorem cLq:aO prog 97=some 1:=by kernel_rfl
theorem cLr:aO prog 98=some 1:=by kernel_rfl
theorem cLs:aO prog 99=some 1:=by kernel_rfl
theorem cB5:aO prog 100=some 1:=by kernel_rfl
theorem cB6:aO prog 101=some 1:=by kernel_rfl
theorem cB7:aO prog 102=some 1:=by kernel_rfl
theorem cB8:aO prog 103=some 1:=by kernel_rfl
theorem cB9:aO prog 104=some 1:=by kernel_rfl
theorem cBa:aO prog 105=some 3:=by kernel_rfl
theorem cBb:aO prog 106=some 3:=by kernel_rfl
theorem cBc:aO prog 107=some 1:=by kernel_rfl
theorem cBd:aO prog 108=some 1:=by kernel_rfl
theorem cBe:aO prog 109=some 1:=by kernel_rfl
theorem cBf:aO prog 110=some 1:=by kernel_rfl
theorem cBg:aO prog 111=some 1:=by kernel_rfl
theorem cBh:aO prog 112=some 1:=by kernel_rfl
theorem cBi:aO prog 113=some 1:=by kernel_rfl
theorem cBj:aO prog 114=some 1:=by kernel_rfl
theorem cBk:aO prog 115=some 1:=by kernel_rfl
theorem cBl:aO prog 116=some 1:=by kernel_rfl
theorem cBm:aO prog 117=some 1:=by kernel_rfl
theorem cBn:aO prog 118=some 1:=by kernel_rfl
theorem cBo:aO prog 119=some 1:=by kernel_rfl
theorem cBp:aO prog 120=some 1:=by kernel_rfl
theorem cBq:aO prog 121=some 1:=by kernel_rfl
theorem cBr:aO prog 122=some 1:=by kernel_rfl
theorem cBs:aO prog 123=some 1:=by kernel_rfl
theorem cBt:aO prog 124=some 6:=by kernel_rfl
theorem cBu:aO prog 125=some 6:=by kernel_rfl
theorem cBv:aO prog 126=some 1:=by kernel_rfl
theorem cBw:aO prog 127=some 1:=by kernel_rfl
theorem cBx:aO prog 128=some 1:=by kernel_rfl
theorem cBy:aO prog 129=some 1:=by kernel_rfl
theorem cBz:aO prog 130=some 1:=by kernel_rfl
theorem cC0:aO prog 131=some 1:=by kernel_rfl
theorem cC1:aO prog 132=some 2:=by kernel_rfl
theorem cC2:aO prog 133=some 2:=by kernel_rfl
theorem cC3:aO prog 134=some 1:=by kernel_rfl
theorem cC4:aO prog 135=some 1:=by kernel_rfl
theorem cC5:aO prog 136=some 1:=by kernel_rfl
theorem cC6:aO prog 137=some 1:=by kernel_rfl
theorem cC7:aO prog 138=some 1:=by kernel_rfl
theorem cC8:aO prog 139=some 1:=by kernel_rfl
theorem cC9:aO prog 140=some 1:=by kernel_rfl
theorem cCa:aO prog 141=some 1:=by kernel_rfl
theorem cCb:aO prog 142=some 1:=by kernel_rfl
theorem cCc:aO prog 143=some 1:=by kernel_rfl
theorem cCd:aO prog 144=some 1:=by kernel_rfl
theorem cCe:aO prog 145=some 1:=by kernel_rfl
theorem cCf:aO prog 146=some 1:=by kernel_rfl
theorem cCg:aO prog 147=some 1:=by kernel_rfl
theorem bW6:zeroCells? prog 147=some [.v (Value.pointer none)]:=by kernel_rfl
theorem cCh:aO prog 148=some 1:=by kernel_rfl
theorem cCi:aO prog 149=some 1:=by kernel_rfl
theorem cCj:aO prog 150=some 1:=by kernel_rfl
theorem cCk:aO prog 151=some 1:=by kernel_rfl
theorem cCl:aO prog 152=some 1:=by kernel_rfl
theorem cCm:aO prog 153=some 1:=by kernel_rfl
theorem cCn:aO prog 154=some 1:=by kernel_rfl
theorem cCo:aO prog 155=some 1:=by kernel_rfl
theorem cCp:aO prog 156=some 1:=by kernel_rfl
theorem cCq:aO prog 157=some 1:=by kernel_rfl
theorem bVm:Tryz.prog.info? 157=some Tryz.t157:=by kernel_rfl
theorem cHm:Tryz.t157.size=1:=rfl
theorem bVy:Tryz.t157.bytes=24:=rfl
theorem bW1:Tryz.t157.zero=some (Value.slice none 0 0):=rfl
theorem cCr:aO prog 158=some 1:=by kernel_rfl
theorem cCs:aO prog 159=some 1:=by kernel_rfl
theorem cCt:aO prog 160=some 1:=by kernel_rfl
theorem cCu:aO prog 161=some 1:=by kernel_rfl
theorem cCv:aO prog 162=some 1:=by kernel_rfl
theorem cCw:aO prog 163=some 1:=by kernel_rfl
theorem cCx:aO prog 164=some 1:=by kernel_rfl
theorem cCy:aO prog 165=some 1:=by kernel_rfl
theorem cCz:aO prog 166=some 1:=by kernel_rfl
theorem cD0:aO prog 167=some 1:=by kernel_rfl
theorem cD1:aO prog 168=some 1:=by kernel_rfl
theorem cD2:aO prog 169=some 2:=by kernel_rfl
theorem cD3:aO prog 170=some 2:=by kernel_rfl
theorem cD4:aO prog 171=some 1:=by kernel_rfl
theorem cD5:aO prog 172=some 1:=by kernel_rfl
theorem cD6:aO prog 173=some 1:=by kernel_rfl
theorem cD7:aO prog 174=some 1:=by kernel_rfl
theorem cD8:aO prog 175=some 1:=by kernel_rfl
theorem cD9:aO prog 176=some 1:=by kernel_rfl
theorem cDa:aO prog 177=some 1:=by kernel_rfl
theorem cDb:aO prog 178=some 1:=by kernel_rfl
theorem cDc:aO prog 179=some 1:=by kernel_rfl
theorem cDd:aO prog 180=some 2:=by kernel_rfl
theorem bZw:Tryz.prog.info? 180=some Tryz.t180:=by kernel_rfl
theorem cHn:Tryz.t180.size=2:=rfl
theorem bVz:Tryz.t180.bytes=16:=rfl
theorem cHp:Tryz.t180.zero=some (Value.agg #[Value.int IntKind.u64 0,Value.int IntKind.u64 0]):=rfl
theorem cHv:zeroCells? prog 180=some [.v (Value.int IntKind.u64 0),.v (Value.int IntKind.u64 0)]:=by kernel_rfl
theorem cDe:aO prog 181=some 1:=by kernel_rfl
theorem cDf:aO prog 182=some 1:=by kernel_rfl
theorem cDg:aO prog 183=some 1:=by kernel_rfl
theorem cDh:aO prog 184=some 1:=by kernel_rfl
theorem cDi:aO prog 185=some 1:=by kernel_rfl
theorem cDj:aO prog 186=some 1:=by kernel_rfl
theorem cDk:aO prog 187=some 1:=by kernel_rfl
theorem cDl:aO prog 188=some 1:=by kernel_rfl
theorem cDm:aO prog 189=some 1:=by kernel_rfl
theorem cDn:aO prog 190=some 1:=by kernel_rfl
theorem cDo:aO prog 191=some 1:=by kernel_rfl
theorem cDp:aO prog 192=some 1:=by kernel_rfl
theorem cDq:aO prog 193=some 2:=by kernel_rfl
theorem bH4:aO prog 194=some 2:=by kernel_rfl
theorem cHw:zeroCells? prog 194=some [.v (Value.int IntKind.u64 0),.v (Value.int IntKind.i64 0)]:=by kernel_rfl
theorem cDr:aO prog 195=some 1:=by kernel_rfl
theorem cDs:aO prog 196=some 1:=by kernel_rfl
theorem cDt:aO prog 197=some 1:=by kernel_rfl
theorem cDu:aO prog 198=some 1:=by kernel_rfl
theorem cDv:aO prog 199=some 1:=by kernel_rfl
theorem cDw:aO prog 200=some 1:=by kernel_rfl
theorem cDx:aO prog 201=some 1:=by kernel_rfl
theorem cDy:aO prog 202=some 1:=by kernel_rfl
theorem cDz:aO prog 203=some 1:=by kernel_rfl
theorem cE0:aO prog 204=some 1:=by kernel_rfl
theorem cE1:aO prog 205=some 1:=by kernel_rfl
theorem cE2:aO prog 206=some 1:=by kernel_rfl
theorem cE3:aO prog 207=some 1:=by kernel_rfl
theorem cE4:aO prog 208=some 1:=by kernel_rfl
theorem cE5:aO prog 209=some 1:=by kernel_rfl
theorem cE6:aO prog 210=some 1:=by kernel_rfl
theorem cE7:aO prog 211=some 1:=by kernel_rfl
theorem cE8:aO prog 212=some 1:=by kernel_rfl
theorem cE9:aO prog 213=some 1:=by kernel_rfl
theorem cEa:aO prog 214=some 3:=by kernel_rfl
theorem cEb:aO prog 215=some 3:=by kernel_rfl
theorem cHx:zeroCells? prog 215=some [.v (Value.int IntKind.i64 0),.v (Value.int IntKind.i64 0),.v (Value.slice none 0 0)]:=by kernel_rfl
theorem cEc:aO prog 216=some 1:=by kernel_rfl
theorem cEd:aO prog 217=some 1:=by kernel_rfl
theorem cEe:aO prog 218=some 1:=by kernel_rfl
theorem cEf:aO prog 219=some 1:=by kernel_rfl
theorem cEg:aO prog 220=some 1:=by kernel_rfl
theorem cEh:aO prog 221=some 1:=by kernel_rfl
theorem cEi:aO prog 222=some 1:=by kernel_rfl
theorem cEj:aO prog 223=some 2:=by kernel_rfl
theorem cEk:aO prog 224=some 1:=by kernel_rfl
theorem cEl:aO prog 225=some 1:=by kernel_rfl
theorem cEm:aO prog 226=some 1:=by kernel_rfl
theorem cEn:aO prog 227=some 1:=by kernel_rfl
theorem cEo:aO prog 228=some 1:=by kernel_rfl
theorem cEp:aO prog 229=some 1:=by kernel_rfl
theorem cEq:aO prog 230=some 1:=by kernel_rfl
theorem cEr:aO prog 231=some 1:=by kernel_rfl
theorem cEs:aO prog 232=some 6:=by kernel_rfl
theorem cEt:aO prog 233=some 6:=by kernel_rfl
theorem cHz:zeroCells? prog 233=some [.v (Value.pointer none),.v (Value.pointer none),.v (Value.int IntKind.u64 0),.v (Value.int IntKind.i64 0),.v (Value.int IntKind.i64 0),.v (Value.int IntKind.i64 0)]:=by kernel_rfl
theorem cEu:aO prog 234=some 1:=by kernel_rfl
theorem cEv:aO prog 235=some 1:=by kernel_rfl
theorem cEw:aO prog 236=some 1:=by kernel_rfl
theorem cEx:aO prog 237=some 1:=by kernel_rfl
theorem cEy:aO prog 238=some 1:=by kernel_rfl
theorem cEz:aO prog 239=some 1:=by kernel_rfl
theorem cF0:aO prog 240=some 1:=by kernel_rfl
theorem cF1:aO prog 241=some 1:=by kernel_rfl
theorem cF2:aO prog 242=some 1:=by kernel_rfl
theorem cF3:aO prog 243=some 1:=by kernel_rfl
theorem cF4:aO prog 244=some 1:=by kernel_rfl
theorem cF5:aO prog 245=some 1:=by kernel_rfl
theorem cF6:aO prog 246=some 1:=by kernel_rfl
theorem cF7:aO prog 247=some 1:=by kernel_rfl
theorem cF8:aO prog 248=some 1:=by kernel_rfl
theorem cF9:aO prog 249=some 1:=by kernel_rfl
theorem cFa:aO prog 250=some 1:=by kernel_rfl
theorem cFb:aO prog 251=some 1:=by kernel_rfl
theorem cFc:aO prog 252=some 1:=by kernel_rfl
theorem cFd:aO prog 253=some 1:=by kernel_rfl
theorem cFe:aO prog 254=some 1:=by kernel_rfl
theorem cFf:aO prog 255=some 1:=by kernel_rfl
theorem cFg:aO prog 256=some 1:=by kernel_rfl
theorem cFh:aO prog 257=some 1:=by kernel_rfl
theorem cFi:aO prog 258=some 1:=by kernel_rfl
theorem cFj:aO prog 259=some 1:=by kernel_rfl
theorem cFk:aO prog 260=some 1:=by kernel_rfl
theorem cFl:aO prog 261=some 24:=by kernel_rfl
theorem cFm:aO prog 262=some 1:=by kernel_rfl
theorem cFn:aO prog 263=some 1:=by kernel_rfl
theorem cFo:aO prog 264=some 1:=by kernel_rfl
theorem cFp:aO prog 265=some 1:=by kernel_rfl
theorem cFq:aO prog 266=some 1:=by kernel_rfl
theorem cFr:aO prog 267=some 1:=by kernel_rfl
theorem cFs:aO prog 268=some 1:=by kernel_rfl
theorem cFt:aO prog 269=some 1:=by kernel_rfl
theorem cFv:aO prog 270=some 1:=by kernel_rfl
theorem cFw:aO prog 271=some 1:=by kernel_rfl
theorem cFx:aO prog 272=some 1:=by kernel_rfl
theorem cFy:aO prog 273=some 1:=by kernel_rfl
theorem cFz:aO prog 274=some 1:=by kernel_rfl
theorem cG0:aO prog 275=some 1:=by kernel_rfl
theorem cG1:aO prog 276=some 1:=by kernel_rfl
theorem bVx:aO prog 277=some 1:=by kernel_rfl
theorem bZy:Tryz.prog.info? 277=some Tryz.t277:=by kernel_rfl
theorem cHo:Tryz.t277.size=1:=rfl
theorem bW0:Tryz.t277.bytes=4:=rfl
theorem cHr:Tryz.t277.zero=some (Value.int IntKind.u32 0):=rfl
theorem cI0:zeroCells? prog 277=some [.v (Value.int IntKind.u32 0)]:=by kernel_rfl
theorem cG2:aO prog 278=some 1:=by kernel_rfl
theorem cG3:aO prog 279=some 1:=by kernel_rfl
theorem cG4:aO prog 280=some 1:=by kernel_rfl
theorem cG5:aO prog 281=some 1:=by kernel_rfl
theorem cG6:aO prog 282=some 1:=by kernel_rfl
theorem cG7:aO prog 283=some 1:=by kernel_rfl
theorem cG8:aO prog 284=some 1:=by kernel_rfl
theorem cG9:aO prog 286=some 1:=by kernel_rfl
theorem cGa:aO prog 287=some 1:=by kernel_rfl
theorem cGb:aO prog 288=some 1:=by kernel_rfl
theorem cGc:aO prog 289=some 1:=by kernel_rfl
theorem cGd:aO prog 290=some 1:=by kernel_rfl
theorem cGe:aO prog 291=some 1:=by kernel_rfl
theorem cGf:aO prog 292=some 1:=by kernel_rfl
theorem cGg:aO prog 293=some 1:=by kernel_rfl
theorem cGh:aO prog 295=some 1:=by kernel_rfl
theorem cGi:aO prog 297=some 1:=by kernel_rfl
theorem cGj:aO prog 298=some 20:=by kernel_rfl
theorem cGk:aO prog 299=some 65:=by kernel_rfl
theorem bBw:aO prog 300=some 1:=by kernel_rfl
theorem cI1:zeroCells? prog 300=some [.v (Value.int IntKind.u64 0)]:=by kernel_rfl
theorem cGl:aO prog 301=some 1:=by kernel_rfl
theorem cGm:aO prog 302=some 1:=by kernel_rfl
theorem cGn:aO prog 303=some 1:=by kernel_rfl
theorem cGo:aO prog 304=some 1:=by kernel_rfl
theorem cGp:aO prog 305=some 1:=by kernel_rfl
theorem cGq:aO prog 306=some 1:=by kernel_rfl
theorem cGr:aO prog 307=some 1:=by kernel_rfl
theorem cGs:aO prog 308=some 1:=by kernel_rfl
theorem cGt:aO prog 309=some 1:=by kernel_rfl
theorem cGv:aO prog 310=some 1:=by kernel_rfl
theorem cGw:aO prog 311=some 1:=by kernel_rfl
theorem cGx:aO prog 312=some 1:=by kernel_rfl
theorem cGy:aO prog 313=some 1:=by kernel_rfl
theorem cGz:aO prog 314=some 1:=by kernel_rfl
theorem cH0:aO prog 315=some 1:=by kernel_rfl
theorem cH1:aO prog 316=some 32:=by kernel_rfl
theorem cH2:aO prog 317=some 64:=by kernel_rfl
theorem cH3:aO prog 318=some 1:=by kernel_rfl
theorem cH4:aO prog 319=some 4:=by kernel_rfl
theorem cH5:aO prog 320=some 4:=by kernel_rfl
theorem cH6:aO prog 321=some 0:=by kernel_rfl
theorem cH7:aO prog 322=some 0:=by kernel_rfl
theorem cH8:aO prog 323=some 0:=by kernel_rfl
theorem cH9:aO prog 324=some 1:=by kernel_rfl
theorem cHa:aO prog 325=some 1:=by kernel_rfl
theorem cHb:aO prog 326=some 1:=by kernel_rfl
theorem cHc:aO prog 327=some 1:=by kernel_rfl
theorem cHd:aO prog 328=some 1:=by kernel_rfl
theorem cHe:aO prog 329=some 1:=by kernel_rfl
theorem cHf:aO prog 330=some 11:=by kernel_rfl
theorem cHg:aO prog 331=some 11:=by kernel_rfl
theorem cHh:aO prog 332=some 1:=by kernel_rfl
theorem cHi:aO prog 333=some 1:=by kernel_rfl
abbrev FbP(k:Nat):Prop:=(Program.funcs prog)[k]?.any (fun fn=>fn.body.isSome&&fn.name != "runtime.NumGoroutine")=true
theorem fbT{k:Nat}{f}(h:(Program.funcs prog)[k]? =some f)(h':(f.body.isSome&&f.name != "runtime.NumGoroutine")=true):FbP k:=by
 show (Program.funcs prog)[k]?.any _=true;rw [h];exact h'
theorem bWu:FbP 28:=fbT func28 (by kernel_rfl)
theorem cIb:FbP 32:=fbT func32 (by kernel_rfl)
theorem aU7:FbP 42:=fbT func42 (by kernel_rfl)
theorem aX4:FbP 91:=fbT func91 (by kernel_rfl)
theorem bZ7:FbP 103:=fbT func103 (by kernel_rfl)
theorem bVa:FbP 104:=fbT func104 (by kernel_rfl)
theorem bVb:FbP 105:=fbT func105 (by kernel_rfl)
theorem bVc:FbP 107:=fbT func107 (by kernel_rfl)
theorem bZ8:FbP 115:=fbT func115 (by kernel_rfl)
theorem bZ9:FbP 121:=fbT func121 (by kernel_rfl)
theorem bZa:FbP 123:=fbT func123 (by kernel_rfl)
theorem bZb:FbP 127:=fbT func127 (by kernel_rfl)
theorem bZc:FbP 128:=fbT func128 (by kernel_rfl)
theorem bVd:FbP 129:=fbT func129 (by kernel_rfl)
theorem bVe:FbP 153:=fbT func153 (by kernel_rfl)
theorem bNf:FbP 155:=fbT func155 (by kernel_rfl)
theorem bVf:FbP 156:=fbT func156 (by kernel_rfl)
theorem bZd:FbP 157:=fbT func157 (by kernel_rfl)
theorem bZe:FbP 158:=fbT func158 (by kernel_rfl)
theorem bNg:FbP 159:=fbT func159 (by kernel_rfl)
theorem bZf:FbP 160:=fbT func160 (by kernel_rfl)
theorem bZg:FbP 172:=fbT func172 (by kernel_rfl)
theorem bG3:FbP 191:=fbT func191 (by kernel_rfl)
theorem bVg:FbP 192:=fbT func192 (by kernel_rfl)
theorem bZh:FbP 193:=fbT func193 (by kernel_rfl)
theorem bZi:FbP 194:=fbT func194 (by kernel_rfl)
theorem bZj:FbP 195:=fbT func195 (by kernel_rfl)
theorem bZk:FbP 196:=fbT func196 (by kernel_rfl)
theorem bZl:FbP 197:=fbT func197 (by kernel_rfl)
theorem bZm:FbP 198:=fbT func198 (by kernel_rfl)
theorem bVh:FbP 199:=fbT func199 (by kernel_rfl)
theorem bZn:FbP 200:=fbT func200 (by kernel_rfl)
theorem bZo:FbP 201:=fbT func201 (by kernel_rfl)
theorem bZp:FbP 218:=fbT func218 (by kernel_rfl)
theorem bZq:FbP 222:=fbT func222 (by kernel_rfl)
theorem bZr:FbP 223:=fbT func223 (by kernel_rfl)
theorem bZs:FbP 228:=fbT func228 (by kernel_rfl)
theorem bG4:FbP 236:=fbT func236 (by kernel_rfl)
theorem bVi:FbP 237:=fbT func237 (by kernel_rfl)
theorem bZt:FbP 239:=fbT func239 (by kernel_rfl)
theorem bZu:FbP 240:=fbT func240 (by kernel_rfl)
theorem bNh:FbP 241:=fbT func241 (by kernel_rfl)
theorem bVj:FbP 242:=fbT func242 (by kernel_rfl)
theorem bNi:FbP 255:=fbT func255 (by kernel_rfl)
theorem mix:Tryz.prog.follows .mixedOrders=true:=by kernel_rfl
@[go_sem] theorem mi3(H:aH)(ρ:Operand→AV)(x:Operand):bJ prog H ρ (.makeInterface 3 x)=some (.ifc 3 (ρ x)):=by simp only [bJ,underlying3]
@[go_sem] theorem mi4(H:aH)(ρ:Operand→AV)(x:Operand):bJ prog H ρ (.makeInterface 4 x)=some (.ifc 4 (ρ x)):=by simp only [bJ,underlying4]
@[go_sem] theorem ln9(s:ByteArray):bF prog .len [9] [.v (.string s)]=some (.v (.int .i64 s.size)):=aAe underlying9
@[go_sem] theorem mi9(H:aH)(ρ:Operand→AV)(x:Operand):bJ prog H ρ (.makeInterface 9 x)=some (.ifc 9 (ρ x)):=by simp only [bJ,underlying9]
@[go_sem] theorem cIe(s:ByteArray):bF prog .len [10] [.v (.string s)]=some (.v (.int .i64 s.size)):=aAe underlying10
@[go_sem] theorem cIf(s:ByteArray):bF prog .len [11] [.v (.string s)]=some (.v (.int .i64 s.size)):=aAe underlying11
theorem cIg(xs:List AV)(n:Nat)(f:Bool):bF prog .len [24] [.sl xs n f]=some (.v (.int .i64 n)):=dB underlying24
theorem cIq(j o n:Nat):bF prog .len [24] [.own j o n]=some (.v (.int .i64 n)):=cY underlying24
theorem cJ1(n c:Nat):bF prog .len [24] [.v (.slice none n c)]=some (.v (.int .i64 n)):=cX underlying24
attribute [go_sem] cIg cIq cJ1
@[go_sem] theorem cJd(H:aH)(ρ:Operand→AV)(x:Operand):bJ prog H ρ (.makeInterface 24 x)=some (.ifc 24 (ρ x)):=by simp only [bJ,underlying24]
theorem cIh(xs:List AV)(n:Nat)(f:Bool):bF prog .len [25] [.sl xs n f]=some (.v (.int .i64 n)):=dB underlying25
theorem cIr(j o n:Nat):bF prog .len [25] [.own j o n]=some (.v (.int .i64 n)):=cY underlying25
theorem cJ2(n c:Nat):bF prog .len [25] [.v (.slice none n c)]=some (.v (.int .i64 n)):=cX underlying25
attribute [go_sem] cIh cIr cJ2
theorem cIi(xs:List AV)(n:Nat)(f:Bool):bF prog .len [27] [.sl xs n f]=some (.v (.int .i64 n)):=dB underlying27
theorem cIs(j o n:Nat):bF prog .len [27] [.own j o n]=some (.v (.int .i64 n)):=cY underlying27
theorem cJ3(n c:Nat):bF prog .len [27] [.v (.slice none n c)]=some (.v (.int .i64 n)):=cX underlying27
attribute [go_sem] cIi cIs cJ3
theorem cIj(xs:List AV)(n:Nat)(f:Bool):bF prog .len [28] [.sl xs n f]=some (.v (.int .i64 n)):=dB underlying28
theorem cIt(j o n:Nat):bF prog .len [28] [.own j o n]=some (.v (.int .i64 n)):=cY underlying28
theorem cJ4(n c:Nat):bF prog .len [28] [.v (.slice none n c)]=some (.v (.int .i64 n)):=cX underlying28
attribute [go_sem] cIj cIt cJ4
theorem cIk(xs:List AV)(n:Nat)(f:Bool):bF prog .len [31] [.sl xs n f]=some (.v (.int .i64 n)):=dB underlying31
theorem cIu(j o n:Nat):bF prog .len [31] [.own j o n]=some (.v (.int .i64 n)):=cY underlying31
theorem cJ5(n c:Nat):bF prog .len [31] [.v (.slice none n c)]=some (.v (.int .i64 n)):=cX underlying31
attribute [go_sem] cIk cIu cJ5
@[go_sem] theorem cJe(H:aH)(ρ:Operand→AV)(x:Operand):bJ prog H ρ (.makeInterface 36 x)=some (.ifc 36 (ρ x)):=by simp only [bJ,underlying36]
theorem cIl(xs:List AV)(n:Nat)(f:Bool):bF prog .len [53] [.sl xs n f]=some (.v (.int .i64 n)):=dB underlying53
theorem cIv(j o n:Nat):bF prog .len [53] [.own j o n]=some (.v (.int .i64 n)):=cY underlying53
theorem cJ6(n c:Nat):bF prog .len [53] [.v (.slice none n c)]=some (.v (.int .i64 n)):=cX underlying53
attribute [go_sem] cIl cIv cJ6
theorem cIm(xs:List AV)(n:Nat)(f:Bool):bF prog .len [56] [.sl xs n f]=some (.v (.int .i64 n)):=dB underlying56
theorem cIw(j o n:Nat):bF prog .len [56] [.own j o n]=some (.v (.int .i64 n)):=cY underlying56
theorem cJ7(n c:Nat):bF prog .len [56] [.v (.slice none n c)]=some (.v (.int .i64 n)):=cX underlying56
attribute [go_sem] cIm cIw cJ7
theorem cIn(xs:List AV)(n:Nat)(f:Bool):bF prog .len [65] [.sl xs n f]=some (.v (.int .i64 n)):=dB underlying65
theorem cIx(j o n:Nat):bF prog .len [65] [.own j o n]=some (.v (.int .i64 n)):=cY underlying65
theorem cJ8(n c:Nat):bF prog .len [65] [.v (.slice none n c)]=some (.v (.int .i64 n)):=cX underlying65
attribute [go_sem] cIn cIx cJ8
theorem cIo(xs:List AV)(n:Nat)(f:Bool):bF prog .len [69] [.sl xs n f]=some (.v (.int .i64 n)):=dB underlying69
theorem cIy(j o n:Nat):bF prog .len [69] [.own j o n]=some (.v (.int .i64 n)):=cY underlying69
theorem cJ9(n c:Nat):bF prog .len [69] [.v (.slice none n c)]=some (.v (.int .i64 n)):=cX underlying69
attribute [go_sem] cIo cIy cJ9
theorem cIp(xs:List AV)(n:Nat)(f:Bool):bF prog .len [91] [.sl xs n f]=some (.v (.int .i64 n)):=dB underlying91
theorem cIz(j o n:Nat):bF prog .len [91] [.own j o n]=some (.v (.int .i64 n)):=cY underlying91
theorem cJa(n c:Nat):bF prog .len [91] [.v (.slice none n c)]=some (.v (.int .i64 n)):=cX underlying91
attribute [go_sem] cIp cIz cJa
theorem cA2(xs:List AV)(n:Nat)(f:Bool):bF prog .len [100] [.sl xs n f]=some (.v (.int .i64 n)):=dB underlying100
theorem cAa(j o n:Nat):bF prog .len [100] [.own j o n]=some (.v (.int .i64 n)):=cY underlying100
theorem cAi(n c:Nat):bF prog .len [100] [.v (.slice none n c)]=some (.v (.int .i64 n)):=cX underlying100
attribute [go_sem] cA2 cAa cAi
theorem cA3(xs:List AV)(n:Nat)(f:Bool):bF prog .len [123] [.sl xs n f]=some (.v (.int .i64 n)):=dB underlying123
theorem cAb(j o n:Nat):bF prog .len [123] [.own j o n]=some (.v (.int .i64 n)):=cY underlying123
theorem cAj(n c:Nat):bF prog .len [123] [.v (.slice none n c)]=some (.v (.int .i64 n)):=cX underlying123
attribute [go_sem] cA3 cAb cAj
theorem cA4(xs:List AV)(n:Nat)(f:Bool):bF prog .len [157] [.sl xs n f]=some (.v (.int .i64 n)):=dB underlying157
theorem cAc(j o n:Nat):bF prog .len [157] [.own j o n]=some (.v (.int .i64 n)):=cY underlying157
theorem cAk(n c:Nat):bF prog .len [157] [.v (.slice none n c)]=some (.v (.int .i64 n)):=cX underlying157
attribute [go_sem] cA4 cAc cAk
@[go_sem] theorem cAq(H:aH)(ρ:Operand→AV)(x:Operand):bJ prog H ρ (.makeInterface 157 x)=some (.ifc 157 (ρ x)):=by simp only [bJ,underlying157]
theorem cA5(xs:List AV)(n:Nat)(f:Bool):bF prog .len [249] [.sl xs n f]=some (.v (.int .i64 n)):=dB underlying249
theorem cAd(j o n:Nat):bF prog .len [249] [.own j o n]=some (.v (.int .i64 n)):=cY underlying249
theorem cAl(n c:Nat):bF prog .len [249] [.v (.slice none n c)]=some (.v (.int .i64 n)):=cX underlying249
attribute [go_sem] cA5 cAd cAl
theorem cA6(xs:List AV)(n:Nat)(f:Bool):bF prog .len [253] [.sl xs n f]=some (.v (.int .i64 n)):=dB underlying253
theorem cAe(j o n:Nat):bF prog .len [253] [.own j o n]=some (.v (.int .i64 n)):=cY underlying253
theorem cAm(n c:Nat):bF prog .len [253] [.v (.slice none n c)]=some (.v (.int .i64 n)):=cX underlying253
attribute [go_sem] cA6 cAe cAm
theorem cA7(xs:List AV)(n:Nat)(f:Bool):bF prog .len [267] [.sl xs n f]=some (.v (.int .i64 n)):=dB underlying267
theorem cAf(j o n:Nat):bF prog .len [267] [.own j o n]=some (.v (.int .i64 n)):=cY underlying267
theorem cAn(n c:Nat):bF prog .len [267] [.v (.slice none n c)]=some (.v (.int .i64 n)):=cX underlying267
attribute [go_sem] cA7 cAf cAn
theorem cA8(xs:List AV)(n:Nat)(f:Bool):bF prog .len [284] [.sl xs n f]=some (.v (.int .i64 n)):=dB underlying284
theorem cAg(j o n:Nat):bF prog .len [284] [.own j o n]=some (.v (.int .i64 n)):=cY underlying284
theorem cAo(n c:Nat):bF prog .len [284] [.v (.slice none n c)]=some (.v (.int .i64 n)):=cX underlying284
attribute [go_sem] cA8 cAg cAo
theorem cA9(xs:List AV)(n:Nat)(f:Bool):bF prog .len [310] [.sl xs n f]=some (.v (.int .i64 n)):=dB underlying310
theorem cAh(j o n:Nat):bF prog .len [310] [.own j o n]=some (.v (.int .i64 n)):=cY underlying310
theorem cAp(n c:Nat):bF prog .len [310] [.v (.slice none n c)]=some (.v (.int .i64 n)):=cX underlying310
attribute [go_sem] cA9 cAh cAp
attribute [go_sem] underlying0 sz0 underlying1 sz1 underlying2 sz2 underlying3 sz3 underlying4 sz4 underlying5 sz5 underlying6 sz6 underlying7 sz7 underlying8 sz8 underlying9 sz9 underlying10 cJm underlying11 cJn underlying12 cJo underlying13 cJp underlying14 cJq underlying15 cJr underlying16 cJs underlying17 cJt underlying18 cJu underlying19 cJv underlying20 cJw underlying21 cJx underlying22 cJy underlying23 bY6 underlying24 cJz underlying25 cK0 underlying26 cK1 underlying27 cFu underlying28 bUt underlying29 cK2 underlying30 cK3 underlying31 cGu underlying32 cK4 underlying33 bLj underlying34 cK5 underlying35 cK6 underlying36 cK7 underlying37 cK8 underlying38 cK9 underlying39 cKa underlying40 aM8 underlying41 cKb underlying42 cKc underlying43 cKd underlying44 cKe underlying45 cKf underlying46 cKg underlying47 cKh underlying48 cKi underlying49 cKj underlying50 cKk underlying51 cKl underlying52 cKm underlying53 cKn underlying54 cKo underlying55 cKp underlying56 bBx underlying57 cKq underlying58 cKr underlying59 cKs underlying60 cKt underlying61 aNu underlying62 cKu underlying63 cKv underlying64 cKw underlying65 cKx underlying66 cKy underlying67 cKz underlying68 cL0 underlying69 bY7 underlying70 cL1 underlying71 cL2 underlying72 cL3 underlying73 cL4 underlying74 cL5 underlying75 cL6 underlying76 cL7 underlying77 cL8 underlying78 cL9 underlying79 cLa underlying80 cLb underlying81 cLc underlying82 cLd underlying83 cLe underlying84 cLf underlying85 cLg underlying86 cLh underlying87 cLi underlying88 cLj underlying89 cLk underlying90 cLl underlying91 cLm underlying92 cLn underlying93 cLo underlying94 bQc underlying95 cLp underlying96 bQd underlying97 cLq underlying98 cLr underlying99 cLs underlying100 cB5 underlying101 cB6 underlying102 cB7 underlying103 cB8 underlying104 cB9 underlying105 cBa underlying106 cBb underlying107 cBc underlying108 cBd underlying109 cBe underlying110 cBf underlying111 cBg underlying112 cBh underlying113 cBi underlying114 cBj underlying115 cBk underlying116 cBl underlying117 cBm underlying118 cBn underlying119 cBo underlying120 cBp underlying121 cBq underlying122 cBr underlying123 cBs underlying124 cBt underlying125 cBu underlying126 cBv underlying127 cBw underlying128 cBx underlying129 cBy underlying130 cBz underlying131 cC0 underlying132 cC1 underlying133 cC2 underlying134 cC3 underlying135 cC4 underlying136 cC5 underlying137 cC6 underlying138 cC7 underlying139 cC8 underlying140 cC9 underlying141 cCa underlying142 cCb underlying143 cCc underlying144 cCd underlying145 cCe underlying146 cCf underlying147 cCg underlying148 cCh underlying149 cCi underlying150 cCj underlying151 cCk underlying152 cCl underlying153 cCm underlying154 cCn underlying155 cCo underlying156 cCp underlying157 cCq underlying158 cCr underlying159 cCs underlying160 cCt underlying161 cCu underlying162 cCv underlying163 cCw underlying164 cCx underlying165 cCy underlying166 cCz underlying167 cD0 underlying168 cD1 underlying169 cD2 underlying170 cD3 underlying171 cD4 underlying172 cD5 underlying173 cD6 underlying174 cD7 underlying175 cD8 underlying176 cD9 underlying177 cDa underlying178 cDb underlying179 cDc underlying180 cDd underlying181 cDe underlying182 cDf underlying183 cDg underlying184 cDh underlying185 cDi underlying186 cDj underlying187 cDk underlying188 cDl underlying189 cDm underlying190 cDn underlying191 cDo underlying192 cDp underlying193 cDq underlying194 bH4 underlying195 cDr underlying196 cDs underlying197 cDt underlying198 cDu underlying199 cDv underlying200 cDw underlying201 cDx underlying202 cDy underlying203 cDz underlying204 cE0 underlying205 cE1 underlying206 cE2 underlying207 cE3 underlying208 cE4 underlying209 cE5 underlying210 cE6 underlying211 cE7 underlying212 cE8 underlying213 cE9 underlying214 cEa underlying215 cEb underlying216 cEc underlying217 cEd underlying218 cEe underlying219 cEf underlying220 cEg underlying221 cEh underlying222 cEi underlying223 cEj underlying224 cEk underlying225 cEl underlying226 cEm underlying227 cEn underlying228 cEo underlying229 cEp underlying230 cEq underlying231 cEr underlying232 cEs underlying233 cEt underlying234 cEu underlying235 cEv underlying236 cEw underlying237 cEx underlying238 cEy underlying239 cEz underlying240 cF0 underlying241 cF1 underlying242 cF2 underlying243 cF3 underlying244 cF4 underlying245 cF5 underlying246 cF6 underlying247 cF7 underlying248 cF8 underlying249 cF9 underlying250 cFa underlying251 cFb underlying252 cFc underlying253 cFd underlying254 cFe underlying255 cFf underlying256 cFg underlying257 cFh underlying258 cFi underlying259 cFj underlying260 cFk underlying261 cFl underlying262 cFm underlying263 cFn underlying264 cFo underlying265 cFp underlying266 cFq underlying267 cFr underlying268 cFs underlying269 cFt underlying270 cFv underlying271 cFw underlying272 cFx underlying273 cFy underlying274 cFz underlying275 cG0 underlying276 cG1 underlying277 bVx underlying278 cG2 underlying279 cG3 underlying280 cG4 underlying281 cG5 underlying282 cG6 underlying283 cG7 underlying284 cG8 underlying286 cG9 underlying287 cGa underlying288 cGb underlying289 cGc underlying290 cGd underlying291 cGe underlying292 cGf underlying293 cGg underlying295 cGh underlying297 cGi underlying298 cGj underlying299 cGk underlying300 bBw underlying301 cGl underlying302 cGm underlying303 cGn underlying304 cGo underlying305 cGp underlying306 cGq underlying307 cGr underlying308 cGs underlying309 cGt underlying310 cGv underlying311 cGw underlying312 cGx underlying313 cGy underlying314 cGz underlying315 cH0 underlying316 cH1 underlying317 cH2 underlying318 cH3 underlying319 cH4 underlying320 cH5 underlying321 cH6 underlying322 cH7 underlying323 cH8 underlying324 cH9 underlying325 cHa underlying326 cHb underlying327 cHc underlying328 cHd underlying329 cHe underlying330 cHf underlying331 cHg underlying332 cHh underlying333 cHi
end Go.Proofs.YtkdohhmacfoolaaGreatDoor
